/- Part 29 of a proof: rules, plain facts, and functions walked. -/
import Derived.Test.YtihgdjljnaekmaaGreatM13
import Derived.Test.YtihgdjljnaekmaaGreatM4
import Derived.Test.YtihgdjljnaekmaaGreatM28
set_option linter.unusedVariables false
set_option linter.unusedSimpArgs false
namespace Go.Fid
def rngB (n : Int) (x : REdge) : Bool := ((decide (x.fr < 0) || decide (n ≤ x.fr)) || decide (x.to_ < 0)) || decide (n ≤ x.to_)
theorem rngB_t {n : Int} {x : REdge} (h : rngB n x = true) : edgC n x = 2 := by
  simp only [rngB, Bool.or_eq_true, decide_eq_true_eq] at h
  exact if_neg (by omega)
theorem rngB_f {n : Int} {x : REdge} (h : rngB n x = false) : 0 ≤ x.fr ∧ x.fr < n ∧ 0 ≤ x.to_ ∧ x.to_ < n := by
  simp only [rngB, Bool.or_eq_false_iff, decide_eq_false_iff_not] at h
  omega
theorem edgC_d {n : Int} {x : REdge} (h : rngB n x = false) (e : x.fr = x.to_) : edgC n x = 13 := by
  unfold edgC; rw [if_pos (rngB_f h), if_pos e]
theorem edgC_q {n : Int} {x : REdge} (h : rngB n x = false) (e : x.fr ≠ x.to_) : edgC n x = rotC x.turn.a x.turn.b x.turn.c x.turn.d := by
  unfold edgC; rw [if_pos (rngB_f h), if_neg e]
def limB (n : Int) (es : List REdge) : Bool := (decide (n < 1) || decide (64 < n)) || decide (256 < ((es.length : Nat) : Int))
theorem limB_t {n : Int} {es : List REdge} (h : limB n es = true) : lopC n es = 3 := by
  simp only [limB, Bool.or_eq_true, decide_eq_true_eq] at h
  exact lopC_lim (by omega)
theorem limB_f {n : Int} {es : List REdge} (h : limB n es = false) : lopC n es = edsC n es ∧ 1 ≤ n ∧ n ≤ 64 ∧ es.length ≤ 256 := by
  simp only [limB, Bool.or_eq_false_iff, decide_eq_false_iff_not] at h
  exact ⟨lopC_eds (by omega) (by omega) (by omega), by omega, by omega, by omega⟩
def okUp (n : Int) (es : List REdge) (k : Nat) : Prop := ∀ i, i < k → edgC n (es.getD i e0) = 0
theorem okUp_0 (n : Int) (es : List REdge) : okUp n es 0 := fun i hi => by omega
theorem okUp_s {n : Int} {es : List REdge} {k : Nat} (h : okUp n es k) (h1 : edgC n (es.getD k e0) = 0) : okUp n es (k + 1) := fun i hi => by
  by_cases e : i = k
  · subst e; exact h1
  · exact h i (by omega)
theorem lop_bad {n : Int} {es : List REdge} {k c : Nat} (hl : limB n es = false) (hk : k < es.length) (hv : okUp n es k) (h : edgC n (es.getD k e0) = c) (hc : c ≠ 0) : lopC n es = c := by
  rw [(limB_f hl).1, edsC_at hk hv (by rw [h]; exact hc), h]
theorem lop_end {n : Int} {es : List REdge} {k : Nat} (hl : limB n es = false) (hk : k = es.length) (hv : okUp n es k) : lopC n es = 0 := by
  subst hk; rw [(limB_f hl).1, edsC_end hv]
theorem rot_ne {a : Nat} (h : ((a : Nat) : Int) ≠ 0) : a ≠ 0 := fun e => h (by rw [e]; rfl)
def Tok (es : List REdge) : Prop := ∀ x ∈ es, Qok x.turn
theorem EsOk.tok {n : Nat} {es : List REdge} (h : EsOk n es) : Tok es := fun x hx => (h x hx).q
theorem Tok.at {es : List REdge} (h : Tok es) {k : Nat} (hk : k < es.length) : Qok (es.getD k e0).turn := by
  rw [List.getD_eq_getElem?_getD, List.getElem?_eq_getElem hk]
  exact h _ (List.getElem_mem hk)
def sIx (k : Int) : Nat := if 0 ≤ k then k.toNat else (-1 - k).toNat
def stE (es : List REdge) (k : Int) : REdge := es.getD (sIx k) e0
def stF (es : List REdge) (k : Int) : Int := if 0 ≤ k then (stE es k).fr else (stE es k).to_
def stT (es : List REdge) (k : Int) : Int := if 0 ≤ k then (stE es k).to_ else (stE es k).fr
def stQ (es : List REdge) (k : Int) : RQuat := if 0 ≤ k then (stE es k).turn else qV (qcj (stE es k).turn)
def inE (es : List REdge) (k : Int) : Prop := -((es.length : Nat) : Int) ≤ k ∧ k < ((es.length : Nat) : Int)
instance {es : List REdge} {k : Int} : Decidable (inE es k) := by unfold inE; infer_instance
theorem sIx_lt {es : List REdge} {k : Int} (h : inE es k) : sIx k < es.length := by
  unfold sIx; unfold inE at h; split <;> omega
theorem stQ_ok {es : List REdge} {k : Int} (h : Tok es) (hk : inE es k) : Qok (stQ es k) := by
  have hq := h.at (sIx_lt hk)
  unfold stQ; split
  · exact hq
  · exact qV_ok (qcj_nz hq.1) (qC_cj hq)
theorem st_p {es : List REdge} {k : Int} (h : 0 ≤ k) : stF es k = (es.getD k.toNat e0).fr ∧ stT es k = (es.getD k.toNat e0).to_ ∧ stQ es k = (es.getD k.toNat e0).turn := by
  unfold stF stT stQ stE sIx; exact ⟨by simp only [if_pos h], by simp only [if_pos h], by simp only [if_pos h]⟩
theorem st_n {es : List REdge} {k : Int} (h : ¬ 0 ≤ k) : stF es k = (es.getD (-1 - k).toNat e0).to_ ∧ stT es k = (es.getD (-1 - k).toNat e0).fr ∧ stQ es k = qV (qcj (es.getD (-1 - k).toNat e0).turn) := by
  unfold stF stT stQ stE sIx; exact ⟨by simp only [if_neg h], by simp only [if_neg h], by simp only [if_neg h]⟩
def arV (es : List REdge) (ws : List Int) : Nat → RQuat
  | 0 => q1
  | k + 1 => qV (qmul (stQ es (ws.getD k 0)) (arV es ws k))
def arX (es : List REdge) (ws : List Int) (k : Nat) : Nat := qC (qmul (stQ es (ws.getD k 0)) (arV es ws k))
def arOk (es : List REdge) (ws : List Int) : Prop := ∀ i, i < ws.length → arX es ws i = 0
instance {es : List REdge} {ws : List Int} : Decidable (arOk es ws) := by unfold arOk; infer_instance
def aroV (es : List REdge) (ws : List Int) : RQuat := if arOk es ws then arV es ws ws.length else ⟨0, 0, 0, 0⟩
def aroC (es : List REdge) (ws : List Int) : Nat := if arOk es ws then 0 else 3
def wIn (es : List REdge) (ws : List Int) : Prop := ∀ k ∈ ws, inE es k
theorem wIn_at {es : List REdge} {ws : List Int} (h : wIn es ws) {i : Nat} (hi : i < ws.length) : inE es (ws.getD i 0) := by
  rw [List.getD_eq_getElem?_getD, List.getElem?_eq_getElem hi]
  exact h _ (List.getElem_mem hi)
def arUp (es : List REdge) (ws : List Int) (k : Nat) : Prop := ∀ i, i < k → arX es ws i = 0
theorem arUp_0 (es : List REdge) (ws : List Int) : arUp es ws 0 := fun i hi => by omega
theorem arUp_s {es : List REdge} {ws : List Int} {k : Nat} (h : arUp es ws k) (h1 : arX es ws k = 0) : arUp es ws (k + 1) := fun i hi => by
  by_cases e : i = k
  · subst e; exact h1
  · exact h i (by omega)
theorem arV_ok {es : List REdge} {ws : List Int} (ht : Tok es) (hw : wIn es ws) : ∀ {k : Nat}, k ≤ ws.length → arUp es ws k → Qok (arV es ws k)
  | 0, _, _ => q1_ok
  | k + 1, hk, h => by
    have ih := arV_ok ht hw (k := k) (by omega) (fun i hi => h i (by omega))
    exact qV_ok (qmul_nz (stQ_ok ht (wIn_at hw (by omega))).1 ih.1) (h k (by omega))
theorem aro_no {es : List REdge} {ws : List Int} {k : Nat} (hk : k < ws.length) (h : arX es ws k ≠ 0) : aroV es ws = ⟨0, 0, 0, 0⟩ ∧ aroC es ws = 3 ∧ arX es ws k = 3 := by
  have hn : ¬ arOk es ws := fun e => h (e k hk)
  exact ⟨if_neg hn, if_neg hn, (qC_01 _).resolve_left h⟩
theorem aro_yes {es : List REdge} {ws : List Int} {k : Nat} (hk : k = ws.length) (h : arUp es ws k) : aroV es ws = arV es ws k ∧ aroC es ws = 0 := by
  subst hk
  exact ⟨if_pos h, if_pos h⟩
def clP (es : List REdge) (ws : List Int) : Prop := ∀ i, i < ws.length → stF es (ws.getD ((i + 1) % ws.length) 0) = stT es (ws.getD i 0)
instance {es : List REdge} {ws : List Int} : Decidable (clP es ws) := by unfold clP; infer_instance
theorem wk_nx {i N : Nat} (h : i < N) : ((i + N - 1) % N + 1) % N = i := by
  by_cases h0 : i = 0
  · subst h0
    rw [Nat.zero_add, Nat.mod_eq_of_lt (a := N - 1) (by omega), show N - 1 + 1 = N by omega, Nat.mod_self]
  · rw [show i + N - 1 = (i - 1) + N by omega, Nat.add_mod_right, Nat.mod_eq_of_lt (a := i - 1) (by omega), show i - 1 + 1 = i by omega, Nat.mod_eq_of_lt h]
theorem wk_pv {i N : Nat} (h : i < N) : ((i + 1) % N + N - 1) % N = i := by
  by_cases h0 : i + 1 = N
  · rw [h0, Nat.mod_self, Nat.zero_add, Nat.mod_eq_of_lt (a := N - 1) (by omega)]; omega
  · rw [Nat.mod_eq_of_lt (a := i + 1) (by omega), show i + 1 + N - 1 = i + N by omega, Nat.add_mod_right, Nat.mod_eq_of_lt h]
theorem clP_back {es : List REdge} {ws : List Int} : clP es ws ↔ ∀ i, i < ws.length → stF es (ws.getD i 0) = stT es (ws.getD ((i + ws.length - 1) % ws.length) 0) := by
  constructor
  · intro h i hi
    have h1 := h ((i + ws.length - 1) % ws.length) (Nat.mod_lt _ (by omega))
    rwa [wk_nx hi] at h1
  · intro h i hi
    have h1 := h ((i + 1) % ws.length) (Nat.mod_lt _ (by omega))
    rwa [wk_pv hi] at h1
instance {es : List REdge} {ws : List Int} : Decidable (wIn es ws) := by unfold wIn; infer_instance
def ardC (es : List REdge) (ws : List Int) : Nat := if 256 < ws.length then 9 else if ¬ wIn es ws then 2 else if ¬ clP es ws then 5 else aroC es ws
def ardV (es : List REdge) (ws : List Int) : RQuat := if 256 < ws.length ∨ ¬ wIn es ws ∨ ¬ clP es ws then ⟨0, 0, 0, 0⟩ else aroV es ws
def arnC (n : Int) (es : List REdge) (ws : List Int) : Nat := if lopC n es = 0 then ardC es ws else lopC n es
def arnV (n : Int) (es : List REdge) (ws : List Int) : RQuat := if lopC n es = 0 then ardV es ws else ⟨0, 0, 0, 0⟩
theorem ard_9 {es : List REdge} {ws : List Int} (h : 256 < ws.length) : ardC es ws = 9 ∧ ardV es ws = ⟨0, 0, 0, 0⟩ := ⟨if_pos h, if_pos (.inl h)⟩
theorem ard_2 {es : List REdge} {ws : List Int} (h : ¬ 256 < ws.length) (h2 : ¬ wIn es ws) : ardC es ws = 2 ∧ ardV es ws = ⟨0, 0, 0, 0⟩ := ⟨by unfold ardC; rw [if_neg h, if_pos h2], if_pos (.inr (.inl h2))⟩
theorem ard_5 {es : List REdge} {ws : List Int} (h : ¬ 256 < ws.length) (h2 : wIn es ws) (h3 : ¬ clP es ws) : ardC es ws = 5 ∧ ardV es ws = ⟨0, 0, 0, 0⟩ := ⟨by unfold ardC; rw [if_neg h, if_neg (fun e => e h2), if_pos h3], if_pos (.inr (.inr h3))⟩
theorem ard_y {es : List REdge} {ws : List Int} (h : ¬ 256 < ws.length) (h2 : wIn es ws) (h3 : clP es ws) : ardC es ws = aroC es ws ∧ ardV es ws = aroV es ws := ⟨by unfold ardC; rw [if_neg h, if_neg (fun e => e h2), if_neg (fun e => e h3)], if_neg (fun e => by rcases e with e | e | e; exact h e; exact e h2; exact e h3)⟩
theorem arn_0 {n : Int} {es : List REdge} {ws : List Int} (h : lopC n es = 0) : arnC n es ws = ardC es ws ∧ arnV n es ws = ardV es ws := ⟨if_pos h, if_pos h⟩
theorem arn_n {n : Int} {es : List REdge} {ws : List Int} (h : lopC n es ≠ 0) : arnC n es ws = lopC n es ∧ arnV n es ws = ⟨0, 0, 0, 0⟩ := ⟨if_neg h, if_neg h⟩
def inUp (es : List REdge) (ws : List Int) (k : Nat) : Prop := ∀ i, i < k → inE es (ws.getD i 0)
theorem inUp_s {es : List REdge} {ws : List Int} {k : Nat} (h : inUp es ws k) (h1 : inE es (ws.getD k 0)) : inUp es ws (k + 1) := fun i hi => by
  by_cases e : i = k
  · subst e; exact h1
  · exact h i (by omega)
theorem inUp_end {es : List REdge} {ws : List Int} {k : Nat} (hk : k = ws.length) (h : inUp es ws k) : wIn es ws := by
  subst hk
  intro z hz
  obtain ⟨i, hi, rfl⟩ := List.getElem_of_mem hz
  have := h i hi
  rwa [List.getD_eq_getElem?_getD, List.getElem?_eq_getElem hi] at this
theorem inUp_no {es : List REdge} {ws : List Int} {k : Nat} (hk : k < ws.length) (h : ¬ inE es (ws.getD k 0)) : ¬ wIn es ws := fun e => h (wIn_at e hk)
def exB (es : List REdge) (k : Int) : Bool := decide (((es.length : Nat) : Int) ≤ k) || decide (k < -((es.length : Nat) : Int))
theorem exB_t {es : List REdge} {k : Int} (h : exB es k = true) : ¬ inE es k := by
  simp only [exB, Bool.or_eq_true, decide_eq_true_eq] at h
  unfold inE; omega
theorem exB_f {es : List REdge} {k : Int} (h : exB es k = false) : inE es k := by
  simp only [exB, Bool.or_eq_false_iff, decide_eq_false_iff_not] at h
  unfold inE; omega
def cbUp (es : List REdge) (ws : List Int) (k : Nat) : Prop := ∀ i, i < k → stF es (ws.getD i 0) = stT es (ws.getD ((i + ws.length - 1) % ws.length) 0)
theorem up_s {P : Nat → Prop} {k : Nat} (h : ∀ i, i < k → P i) (h1 : P k) : ∀ i, i < k + 1 → P i := fun i hi => by
  by_cases e : i = k
  · subst e; exact h1
  · exact h i (by omega)
theorem cb_no {es : List REdge} {ws : List Int} {k : Nat} (hk : k < ws.length) (h : stF es (ws.getD k 0) ≠ stT es (ws.getD ((k + ws.length - 1) % ws.length) 0)) : ¬ clP es ws := fun e => h (clP_back.1 e k hk)
end Go.Fid
namespace Go.Fid
def ini (i : Nat) : List Int := (List.range i).map fun k => ((k : Nat) : Int)
theorem ini_len (i : Nat) : (ini i).length = i := by simp [ini]
theorem ini_s (i : Nat) : ini i ++ [((i : Nat) : Int)] = ini (i + 1) := by simp [ini, List.range_succ]
def RlUp (a b : Int) (p : List Int) (seen : List Nat) (q : List Int) : Prop := q.length = p.length ∧ ∀ j, j < p.length → q.getD j 0 = if j ∈ seen then rl a b (p.getD j 0) else p.getD j 0
theorem RlUp_0 (a b : Int) (p : List Int) : RlUp a b p [] p := ⟨rfl, fun j hj => by simp⟩
theorem RlUp_y {a b : Int} {p q : List Int} {seen : List Nat} {k : Nat} (h : RlUp a b p seen q) (hk : k < p.length) (hn : k ∉ seen) (he : q.getD k 0 = b) : RlUp a b p (seen ++ [k]) (q.set k a) := by
  refine ⟨by rw [List.length_set]; exact h.1, fun j hj => ?_⟩
  have h1 := h.2 j hj
  by_cases e : k = j
  · subst e
    rw [List.getD_eq_getElem?_getD, List.getElem?_set_self (by rw [h.1]; exact hk)]
    rw [h1, if_neg hn] at he
    simp only [List.mem_append, List.mem_singleton, or_true, if_true, Option.getD_some]
    unfold rl; rw [if_pos he]
  · rw [List.getD_eq_getElem?_getD, List.getElem?_set_ne e, ← List.getD_eq_getElem?_getD, h1]
    simp only [List.mem_append, List.mem_singleton, show ¬ j = k from fun x => e x.symm, or_false]
theorem RlUp_n {a b : Int} {p q : List Int} {seen : List Nat} {k : Nat} (h : RlUp a b p seen q) (hk : k < p.length) (hn : k ∉ seen) (he : ¬ q.getD k 0 = b) : RlUp a b p (seen ++ [k]) q := by
  refine ⟨h.1, fun j hj => ?_⟩
  have h1 := h.2 j hj
  by_cases e : k = j
  · subst e
    rw [h1, if_neg hn] at he
    rw [h1, if_neg hn]
    simp only [List.mem_append, List.mem_singleton, or_true, if_true]
    unfold rl; rw [if_neg he]
  · rw [h1]
    simp only [List.mem_append, List.mem_singleton, show ¬ j = k from fun x => e x.symm, or_false]
theorem RlUp_end {a b : Int} {p q : List Int} {seen : List Nat} (h : RlUp a b p seen q) (hs : ∀ k, k < q.length → k ∈ seen) : q = mrg false a b p := by
  apply List.ext_getElem?
  intro j
  by_cases hj : j < p.length
  · have h1 := h.2 j hj
    rw [if_pos (hs j (by rw [h.1]; exact hj))] at h1
    have e2 := mrg_get (g := false) (a := a) (b := b) hj
    rw [List.getD_eq_getElem?_getD, List.getElem?_eq_getElem (by rw [h.1]; exact hj)] at h1
    rw [List.getD_eq_getElem?_getD, List.getElem?_eq_getElem (by rw [mrg_len]; exact hj)] at e2
    rw [List.getElem?_eq_getElem (by rw [h.1]; exact hj), List.getElem?_eq_getElem (by rw [mrg_len]; exact hj)]
    simp only [Option.getD_some] at h1 e2
    rw [h1, e2]; rfl
  · rw [List.getElem?_eq_none (by rw [h.1]; omega), List.getElem?_eq_none (by rw [mrg_len]; omega)]
def unseen (n : Nat) (seen : List Nat) : Nat := (List.range n).countP fun j => !(seen.contains j)
theorem unseen_lt {n k : Nat} {seen : List Nat} (hk : k < n) (hn : k ∉ seen) : unseen n (seen ++ [k]) < unseen n seen := by
  unfold unseen
  refine countP_lt (i := k) (fun x _ hx => ?_) (by simpa using hk) (by simpa using hn) (by simp)
  simp only [Bool.not_eq_true', List.contains_eq_mem, decide_eq_false_iff_not, List.mem_append, not_or] at hx ⊢
  exact hx.1
theorem pA_in {n : Nat} {es : List REdge} {k : Nat} (h : EsOk n es) (hk : k < es.length) (g : Bool) : 0 ≤ (es.getD k e0).fr ∧ (es.getD k e0).fr.toNat < (tPar g n es k).length ∧ 0 ≤ (es.getD k e0).to_ ∧ (es.getD k e0).to_.toNat < (tPar g n es k).length := by
  have h1 := eget h hk
  have h2 := h1.f0; have h3 := h1.f1; have h4 := h1.t0; have h5 := h1.t1
  rw [tPar_len]; omega
end Go.Fid
namespace Go.Proofs.YtihgdjljnaekmaaGreat
open Go.Fid
set_option maxRecDepth 4000
set_option linter.unusedVariables false
set_option linter.unusedSimpArgs false
theorem cb22 : callB Tryz.prog 22 = true := by kernel_rfl
theorem cb25 : callB Tryz.prog 25 = true := by kernel_rfl
theorem cb76 : callB Tryz.prog 76 = true := by kernel_rfl
theorem el39 : elemB Tryz.prog 39 = some (56, 6) := by kernel_rfl
theorem fo56_0 : fieldB Tryz.prog 56 0 = some 0 := by kernel_rfl
theorem fo56_1 : fieldB Tryz.prog 56 1 = some 1 := by kernel_rfl
theorem fo56_2 : fieldB Tryz.prog 56 2 = some 2 := by kernel_rfl
theorem sh56 : shapeB Tryz.prog 56 = some (true, 6) := by kernel_rfl
theorem ze56 : zeroB Tryz.prog 56 = some [.int .i64 0, .int .i64 0, .int .i64 0, .int .i64 0, .int .i64 0, .int .i64 0] := by kernel_rfl
theorem zo56 : ZOk [.int .i64 0, .int .i64 0, .int .i64 0, .int .i64 0, .int .i64 0, .int .i64 0] [.val (.int .i64 0), .val (.int .i64 0), .val (.int .i64 0), .val (.int .i64 0), .val (.int .i64 0), .val (.int .i64 0)] := by simp [ZOk, Value.oneCell']
theorem l_check (n : Int) (es : List REdge) (hb : es.length ≤ 1000000) : Takes Tryz.prog 25 [(.val (.int .i64 (n))), (.sl 56 6 (List.map encEdge es))] (.val (.int .i64 ((((lopC n es) : Nat) : Int)))) := by
  refine fn_intro Tryz.func25 rfl cb25 rfl ?_
  show PWp _ _ _ _ ⟨[(0, (vi n)), (1, (vl 56 6 encEdge es))], []⟩
  refine pwp_seq <| kx [] [] (zM <| zZ) ?_
  refine pwp_seq <| pwp_seq <| kx [(18, (vb ((decide (n < 1) || decide (64 < n)) || decide (256 < ((es.length : Nat) : Int)))))] [] ?_ ?_
  · refine zM <| zE oLt <| zE (oV (vb (decide (n < 1))) (mv_ok (by kernel_rfl))) <| ?_
    rcases hb1 : (decide (n < 1)) with _ | _
    · replace hb1 := of_decide_eq_false hb1
      refine zM <| zE oGt <| zE oPo <| zE (oV (vb (false || decide (64 < n))) (mv_ok (by kernel_rfl))) <| ?_
      rcases hb2 : (false || decide (64 < n)) with _ | _
      · replace hb2 := of_decide_eq_false (p := (64 < n)) hb2
        exact zM <| zE (oLm el39) <| zE oGt <| zE oPo <| zZ
      · replace hb2 := of_decide_eq_true (p := (64 < n)) hb2
        exact zK <| zK <| zK <| zE oPt <| zZ
    · replace hb1 := of_decide_eq_true hb1
      exact zK <| zK <| zE oPt <| zM <| zK <| zK <| zK <| zE oPt <| zZ
  refine pwp_cond rfl (fun h3 => ?_) (fun h3 => ?_)
  · refine pwp_seq <| kx [(4, (vin 3))] [] (zM <| zZ) ?_
    refine pwp_ret ⟨_, (.tmp (d := (.val (.int .i64 (3)))) rfl .nil), ?_⟩
    rw [limB_t h3]; rfl
  · refine pwp_skip <| pwp_seq <| pwp_seq <| kx [(19, (vl 56 6 encEdge es)), (20, (vin es.length)), (21, (vin 0))] [] (zM <| zE (oLm el39) <| zM <| zZ) ?_
    refine pwp_block <| pwp_loop (α := Nat) (fun k => ⟨[(0, (vi n)), (19, (vl 56 6 encEdge es)), (20, (vin es.length)), (21, (vin k))], []⟩) (fun k => k ≤ es.length ∧ okUp n es k) (fun k => es.length - k) 0 wk ⟨Nat.zero_le _, okUp_0 _ _⟩ ?_
    rintro k ⟨hk, hv⟩
    refine pwp_seq <| kx [(22, (vb (decide (((k : Nat) : Int) < ((es.length : Nat) : Int)))))] [] (zE oLt <| zZ) ?_
    refine pwp_seq <| pwp_cond rfl (fun h4 => ?_) (fun h4 => ?_)
    · replace h4 := of_decide_eq_true h4
      refine pwp_skip <| pwp_seq <| pwp_block <| pwp_seq <| kx [(6, (.ref 0 0))] [(0, some (bx (encEdge (es.getD k (REdge.mk 0 0 (RQuat.mk 0 0 0 0))))))] (zE (oXl el39 k (REdge.mk 0 0 (RQuat.mk 0 0 0 0))) <| zE (oCa sh56) <| zN (oAl 0 ze56 zo56) <| zT (oSt sh56) <| zZ) ?_
      refine pwp_seq <| pwp_seq <| kx [(44, (vb (((decide ((es.getD k (REdge.mk 0 0 (RQuat.mk 0 0 0 0))).fr < 0) || decide (n ≤ (es.getD k (REdge.mk 0 0 (RQuat.mk 0 0 0 0))).fr)) || decide ((es.getD k (REdge.mk 0 0 (RQuat.mk 0 0 0 0))).to_ < 0)) || decide (n ≤ (es.getD k (REdge.mk 0 0 (RQuat.mk 0 0 0 0))).to_))))] [] ?_ ?_
      · refine zE (oFr fo56_0) <| zR (oL1 sh3) <| zE oLt <| zE (oV (vb (decide ((es.getD k (REdge.mk 0 0 (RQuat.mk 0 0 0 0))).fr < 0))) (mv_ok (by kernel_rfl))) <| ?_
        rcases hb5 : (decide ((es.getD k (REdge.mk 0 0 (RQuat.mk 0 0 0 0))).fr < 0)) with _ | _
        · replace hb5 := of_decide_eq_false hb5
          refine zE (oFr fo56_0) <| zR (oL1 sh3) <| zM <| zE oGe <| zE oPo <| zE (oV (vb (false || decide (n ≤ (es.getD k (REdge.mk 0 0 (RQuat.mk 0 0 0 0))).fr))) (mv_ok (by kernel_rfl))) <| ?_
          rcases hb6 : (false || decide (n ≤ (es.getD k (REdge.mk 0 0 (RQuat.mk 0 0 0 0))).fr)) with _ | _
          · replace hb6 := of_decide_eq_false (p := (n ≤ (es.getD k (REdge.mk 0 0 (RQuat.mk 0 0 0 0))).fr)) hb6
            refine zE (oFr fo56_1) <| zR (oL1 sh3) <| zE oLt <| zE oPo <| zE (oV (vb (false || decide ((es.getD k (REdge.mk 0 0 (RQuat.mk 0 0 0 0))).to_ < 0))) (mv_ok (by kernel_rfl))) <| ?_
            rcases hb7 : (false || decide ((es.getD k (REdge.mk 0 0 (RQuat.mk 0 0 0 0))).to_ < 0)) with _ | _
            · replace hb7 := of_decide_eq_false (p := ((es.getD k (REdge.mk 0 0 (RQuat.mk 0 0 0 0))).to_ < 0)) hb7
              exact zE (oFr fo56_1) <| zR (oL1 sh3) <| zM <| zE oGe <| zE oPo <| zZ
            · replace hb7 := of_decide_eq_true (p := ((es.getD k (REdge.mk 0 0 (RQuat.mk 0 0 0 0))).to_ < 0)) hb7
              exact zK <| zK <| zK <| zK <| zE oPt <| zZ
          · replace hb6 := of_decide_eq_true (p := (n ≤ (es.getD k (REdge.mk 0 0 (RQuat.mk 0 0 0 0))).fr)) hb6
            exact zK <| zK <| zK <| zE oPt <| zM <| zK <| zK <| zK <| zK <| zE oPt <| zZ
        · replace hb5 := of_decide_eq_true hb5
          exact zK <| zK <| zK <| zK <| zE oPt <| zM <| zK <| zK <| zK <| zE oPt <| zM <| zK <| zK <| zK <| zK <| zE oPt <| zZ
      refine pwp_cond rfl (fun h8 => ?_) (fun h8 => ?_)
      · refine pwp_seq <| kx [(4, (vin 2))] [] (zM <| zZ) ?_
        refine pwp_ret ⟨_, (.tmp (d := (.val (.int .i64 (2)))) rfl .nil), ?_⟩
        rw [lop_bad (k := k) h3 (by omega) hv (rngB_t h8) (by decide)]; rfl
      · refine pwp_skip <| pwp_seq <| pwp_seq <| kx [(49, (vb ((es.getD k (REdge.mk 0 0 (RQuat.mk 0 0 0 0))).fr == (es.getD k (REdge.mk 0 0 (RQuat.mk 0 0 0 0))).to_)))] [] (zE (oFr fo56_0) <| zR (oL1 sh3) <| zE (oFr fo56_1) <| zR (oL1 sh3) <| zE oEq <| zZ) ?_
        refine pwp_cond rfl (fun h9 => ?_) (fun h9 => ?_)
        · replace h9 := eq_of_beq h9
          refine pwp_seq <| kx [(4, (vin 13))] [] (zM <| zZ) ?_
          refine pwp_ret ⟨_, (.tmp (d := (.val (.int .i64 (13)))) rfl .nil), ?_⟩
          rw [lop_bad (k := k) h3 (by omega) hv (edgC_d h8 h9) (by decide)]; rfl
        · replace h9 := ne_of_beq_false h9
          refine pwp_skip <| pwp_seq <| kx [(7, (vin (rotC (((es.getD k (REdge.mk 0 0 (RQuat.mk 0 0 0 0))).turn).a) (((es.getD k (REdge.mk 0 0 (RQuat.mk 0 0 0 0))).turn).b) (((es.getD k (REdge.mk 0 0 (RQuat.mk 0 0 0 0))).turn).c) (((es.getD k (REdge.mk 0 0 (RQuat.mk 0 0 0 0))).turn).d))))] [] (zE (oFr fo56_2) <| zR (oLa sh28) <| zE (oCl (q_chk (((es.getD k (REdge.mk 0 0 (RQuat.mk 0 0 0 0))).turn).a) (((es.getD k (REdge.mk 0 0 (RQuat.mk 0 0 0 0))).turn).b) (((es.getD k (REdge.mk 0 0 (RQuat.mk 0 0 0 0))).turn).c) (((es.getD k (REdge.mk 0 0 (RQuat.mk 0 0 0 0))).turn).d))) <| zM <| zZ) ?_
          refine pwp_seq <| kx [(54, (vb ((((rotC (((es.getD k (REdge.mk 0 0 (RQuat.mk 0 0 0 0))).turn).a) (((es.getD k (REdge.mk 0 0 (RQuat.mk 0 0 0 0))).turn).b) (((es.getD k (REdge.mk 0 0 (RQuat.mk 0 0 0 0))).turn).c) (((es.getD k (REdge.mk 0 0 (RQuat.mk 0 0 0 0))).turn).d)) : Nat) : Int) != 0)))] [] (zM <| zE oNe <| zZ) ?_
          refine pwp_cond rfl (fun h10 => ?_) (fun h10 => ?_)
          · replace h10 := bne_iff_ne.1 h10
            refine pwp_seq <| kx [(4, (vin (rotC (((es.getD k (REdge.mk 0 0 (RQuat.mk 0 0 0 0))).turn).a) (((es.getD k (REdge.mk 0 0 (RQuat.mk 0 0 0 0))).turn).b) (((es.getD k (REdge.mk 0 0 (RQuat.mk 0 0 0 0))).turn).c) (((es.getD k (REdge.mk 0 0 (RQuat.mk 0 0 0 0))).turn).d))))] [] (zM <| zM <| zZ) ?_
            refine pwp_ret ⟨_, (.tmp (d := (.val (.int .i64 ((((rotC (((es.getD k (REdge.mk 0 0 (RQuat.mk 0 0 0 0))).turn).a) (((es.getD k (REdge.mk 0 0 (RQuat.mk 0 0 0 0))).turn).b) (((es.getD k (REdge.mk 0 0 (RQuat.mk 0 0 0 0))).turn).c) (((es.getD k (REdge.mk 0 0 (RQuat.mk 0 0 0 0))).turn).d)) : Nat) : Int))))) rfl .nil), ?_⟩
            rw [lop_bad (k := k) h3 (by omega) hv (edgC_q h8 h9) (rot_ne h10)]; rfl
          · replace h10 := bne_eq_false_iff_eq.1 h10
            refine pwp_skip <| kx [(21, (vin (k + 1)))] [] (zE (oAd (k + 1)) <| zM <| zZ) ?_
            exact ⟨(k + 1), wk, ⟨by omega, okUp_s hv ((edgC_q h8 h9).trans (by omega))⟩, (by omega)⟩
    · replace h4 := of_decide_eq_false h4
      refine pwp_exit <| pwp_seq <| kx [(4, (vin 0))] [] (zM <| zZ) ?_
      refine pwp_ret ⟨_, (.tmp (d := (.val (.int .i64 (0)))) rfl .nil), ?_⟩
      rw [lop_end (k := k) h3 (by omega) hv]; rfl
theorem l8_check (n : Int) (es : List REdge) (hb : es.length ≤ 1000000) : Takes Tryz.prog 22 [(.val (.int .i64 (n))), (.sl 56 6 (List.map encEdge es))] (.val (.int .i64 ((((lopC n es) : Nat) : Int)))) := by
  refine fn_intro Tryz.func22 rfl cb22 rfl ?_
  show PWp _ _ _ _ ⟨[(0, (vi n)), (1, (vl 56 6 encEdge es))], []⟩
  refine pwp_seq <| kx [] [] (zM <| zZ) ?_
  refine pwp_seq <| pwp_seq <| kx [(18, (vb ((decide (n < 1) || decide (64 < n)) || decide (256 < ((es.length : Nat) : Int)))))] [] ?_ ?_
  · refine zM <| zE oLt <| zE (oV (vb (decide (n < 1))) (mv_ok (by kernel_rfl))) <| ?_
    rcases hb1 : (decide (n < 1)) with _ | _
    · replace hb1 := of_decide_eq_false hb1
      refine zM <| zE oGt <| zE oPo <| zE (oV (vb (false || decide (64 < n))) (mv_ok (by kernel_rfl))) <| ?_
      rcases hb2 : (false || decide (64 < n)) with _ | _
      · replace hb2 := of_decide_eq_false (p := (64 < n)) hb2
        exact zM <| zE (oLm el39) <| zE oGt <| zE oPo <| zZ
      · replace hb2 := of_decide_eq_true (p := (64 < n)) hb2
        exact zK <| zK <| zK <| zE oPt <| zZ
    · replace hb1 := of_decide_eq_true hb1
      exact zK <| zK <| zE oPt <| zM <| zK <| zK <| zK <| zE oPt <| zZ
  refine pwp_cond rfl (fun h3 => ?_) (fun h3 => ?_)
  · refine pwp_seq <| kx [(4, (vin 3))] [] (zM <| zZ) ?_
    refine pwp_ret ⟨_, (.tmp (d := (.val (.int .i64 (3)))) rfl .nil), ?_⟩
    rw [limB_t h3]; rfl
  · refine pwp_skip <| pwp_seq <| pwp_seq <| kx [(19, (vl 56 6 encEdge es)), (20, (vin es.length)), (21, (vin 0))] [] (zM <| zE (oLm el39) <| zM <| zZ) ?_
    refine pwp_block <| pwp_loop (α := Nat) (fun k => ⟨[(0, (vi n)), (19, (vl 56 6 encEdge es)), (20, (vin es.length)), (21, (vin k))], []⟩) (fun k => k ≤ es.length ∧ okUp n es k) (fun k => es.length - k) 0 wk ⟨Nat.zero_le _, okUp_0 _ _⟩ ?_
    rintro k ⟨hk, hv⟩
    refine pwp_seq <| kx [(22, (vb (decide (((k : Nat) : Int) < ((es.length : Nat) : Int)))))] [] (zE oLt <| zZ) ?_
    refine pwp_seq <| pwp_cond rfl (fun h4 => ?_) (fun h4 => ?_)
    · replace h4 := of_decide_eq_true h4
      refine pwp_skip <| pwp_seq <| pwp_block <| pwp_seq <| kx [(6, (.ref 0 0))] [(0, some (bx (encEdge (es.getD k (REdge.mk 0 0 (RQuat.mk 0 0 0 0))))))] (zE (oXl el39 k (REdge.mk 0 0 (RQuat.mk 0 0 0 0))) <| zE (oCa sh56) <| zN (oAl 0 ze56 zo56) <| zT (oSt sh56) <| zZ) ?_
      refine pwp_seq <| pwp_seq <| kx [(44, (vb (((decide ((es.getD k (REdge.mk 0 0 (RQuat.mk 0 0 0 0))).fr < 0) || decide (n ≤ (es.getD k (REdge.mk 0 0 (RQuat.mk 0 0 0 0))).fr)) || decide ((es.getD k (REdge.mk 0 0 (RQuat.mk 0 0 0 0))).to_ < 0)) || decide (n ≤ (es.getD k (REdge.mk 0 0 (RQuat.mk 0 0 0 0))).to_))))] [] ?_ ?_
      · refine zE (oFr fo56_0) <| zR (oL1 sh3) <| zE oLt <| zE (oV (vb (decide ((es.getD k (REdge.mk 0 0 (RQuat.mk 0 0 0 0))).fr < 0))) (mv_ok (by kernel_rfl))) <| ?_
        rcases hb5 : (decide ((es.getD k (REdge.mk 0 0 (RQuat.mk 0 0 0 0))).fr < 0)) with _ | _
        · replace hb5 := of_decide_eq_false hb5
          refine zE (oFr fo56_0) <| zR (oL1 sh3) <| zM <| zE oGe <| zE oPo <| zE (oV (vb (false || decide (n ≤ (es.getD k (REdge.mk 0 0 (RQuat.mk 0 0 0 0))).fr))) (mv_ok (by kernel_rfl))) <| ?_
          rcases hb6 : (false || decide (n ≤ (es.getD k (REdge.mk 0 0 (RQuat.mk 0 0 0 0))).fr)) with _ | _
          · replace hb6 := of_decide_eq_false (p := (n ≤ (es.getD k (REdge.mk 0 0 (RQuat.mk 0 0 0 0))).fr)) hb6
            refine zE (oFr fo56_1) <| zR (oL1 sh3) <| zE oLt <| zE oPo <| zE (oV (vb (false || decide ((es.getD k (REdge.mk 0 0 (RQuat.mk 0 0 0 0))).to_ < 0))) (mv_ok (by kernel_rfl))) <| ?_
            rcases hb7 : (false || decide ((es.getD k (REdge.mk 0 0 (RQuat.mk 0 0 0 0))).to_ < 0)) with _ | _
            · replace hb7 := of_decide_eq_false (p := ((es.getD k (REdge.mk 0 0 (RQuat.mk 0 0 0 0))).to_ < 0)) hb7
              exact zE (oFr fo56_1) <| zR (oL1 sh3) <| zM <| zE oGe <| zE oPo <| zZ
            · replace hb7 := of_decide_eq_true (p := ((es.getD k (REdge.mk 0 0 (RQuat.mk 0 0 0 0))).to_ < 0)) hb7
              exact zK <| zK <| zK <| zK <| zE oPt <| zZ
          · replace hb6 := of_decide_eq_true (p := (n ≤ (es.getD k (REdge.mk 0 0 (RQuat.mk 0 0 0 0))).fr)) hb6
            exact zK <| zK <| zK <| zE oPt <| zM <| zK <| zK <| zK <| zK <| zE oPt <| zZ
        · replace hb5 := of_decide_eq_true hb5
          exact zK <| zK <| zK <| zK <| zE oPt <| zM <| zK <| zK <| zK <| zE oPt <| zM <| zK <| zK <| zK <| zK <| zE oPt <| zZ
      refine pwp_cond rfl (fun h8 => ?_) (fun h8 => ?_)
      · refine pwp_seq <| kx [(4, (vin 2))] [] (zM <| zZ) ?_
        refine pwp_ret ⟨_, (.tmp (d := (.val (.int .i64 (2)))) rfl .nil), ?_⟩
        rw [lop_bad (k := k) h3 (by omega) hv (rngB_t h8) (by decide)]; rfl
      · refine pwp_skip <| pwp_seq <| pwp_seq <| kx [(49, (vb ((es.getD k (REdge.mk 0 0 (RQuat.mk 0 0 0 0))).fr == (es.getD k (REdge.mk 0 0 (RQuat.mk 0 0 0 0))).to_)))] [] (zE (oFr fo56_0) <| zR (oL1 sh3) <| zE (oFr fo56_1) <| zR (oL1 sh3) <| zE oEq <| zZ) ?_
        refine pwp_cond rfl (fun h9 => ?_) (fun h9 => ?_)
        · replace h9 := eq_of_beq h9
          refine pwp_seq <| kx [(4, (vin 13))] [] (zM <| zZ) ?_
          refine pwp_ret ⟨_, (.tmp (d := (.val (.int .i64 (13)))) rfl .nil), ?_⟩
          rw [lop_bad (k := k) h3 (by omega) hv (edgC_d h8 h9) (by decide)]; rfl
        · replace h9 := ne_of_beq_false h9
          refine pwp_skip <| pwp_seq <| kx [(7, (vin (rotC (((es.getD k (REdge.mk 0 0 (RQuat.mk 0 0 0 0))).turn).a) (((es.getD k (REdge.mk 0 0 (RQuat.mk 0 0 0 0))).turn).b) (((es.getD k (REdge.mk 0 0 (RQuat.mk 0 0 0 0))).turn).c) (((es.getD k (REdge.mk 0 0 (RQuat.mk 0 0 0 0))).turn).d))))] [] (zE (oFr fo56_2) <| zR (oLa sh28) <| zE (oCl (qs_chk (((es.getD k (REdge.mk 0 0 (RQuat.mk 0 0 0 0))).turn).a) (((es.getD k (REdge.mk 0 0 (RQuat.mk 0 0 0 0))).turn).b) (((es.getD k (REdge.mk 0 0 (RQuat.mk 0 0 0 0))).turn).c) (((es.getD k (REdge.mk 0 0 (RQuat.mk 0 0 0 0))).turn).d))) <| zM <| zZ) ?_
          refine pwp_seq <| kx [(54, (vb ((((rotC (((es.getD k (REdge.mk 0 0 (RQuat.mk 0 0 0 0))).turn).a) (((es.getD k (REdge.mk 0 0 (RQuat.mk 0 0 0 0))).turn).b) (((es.getD k (REdge.mk 0 0 (RQuat.mk 0 0 0 0))).turn).c) (((es.getD k (REdge.mk 0 0 (RQuat.mk 0 0 0 0))).turn).d)) : Nat) : Int) != 0)))] [] (zM <| zE oNe <| zZ) ?_
          refine pwp_cond rfl (fun h10 => ?_) (fun h10 => ?_)
          · replace h10 := bne_iff_ne.1 h10
            refine pwp_seq <| kx [(4, (vin (rotC (((es.getD k (REdge.mk 0 0 (RQuat.mk 0 0 0 0))).turn).a) (((es.getD k (REdge.mk 0 0 (RQuat.mk 0 0 0 0))).turn).b) (((es.getD k (REdge.mk 0 0 (RQuat.mk 0 0 0 0))).turn).c) (((es.getD k (REdge.mk 0 0 (RQuat.mk 0 0 0 0))).turn).d))))] [] (zM <| zM <| zZ) ?_
            refine pwp_ret ⟨_, (.tmp (d := (.val (.int .i64 ((((rotC (((es.getD k (REdge.mk 0 0 (RQuat.mk 0 0 0 0))).turn).a) (((es.getD k (REdge.mk 0 0 (RQuat.mk 0 0 0 0))).turn).b) (((es.getD k (REdge.mk 0 0 (RQuat.mk 0 0 0 0))).turn).c) (((es.getD k (REdge.mk 0 0 (RQuat.mk 0 0 0 0))).turn).d)) : Nat) : Int))))) rfl .nil), ?_⟩
            rw [lop_bad (k := k) h3 (by omega) hv (edgC_q h8 h9) (rot_ne h10)]; rfl
          · replace h10 := bne_eq_false_iff_eq.1 h10
            refine pwp_skip <| kx [(21, (vin (k + 1)))] [] (zE (oAd (k + 1)) <| zM <| zZ) ?_
            exact ⟨(k + 1), wk, ⟨by omega, okUp_s hv ((edgC_q h8 h9).trans (by omega))⟩, (by omega)⟩
    · replace h4 := of_decide_eq_false h4
      refine pwp_exit <| pwp_seq <| kx [(4, (vin 0))] [] (zM <| zZ) ?_
      refine pwp_ret ⟨_, (.tmp (d := (.val (.int .i64 (0)))) rfl .nil), ?_⟩
      rw [lop_end (k := k) h3 (by omega) hv]; rfl
theorem l_step (es : List REdge) (k : Int) (hb : es.length ≤ 1000000) (htk : Tok es) (hk : inE es k) : Takes Tryz.prog 76 [(.sl 56 6 (List.map encEdge es)), (.val (.int .i64 (k)))] (.tup [(.val (.int .i64 ((stF es k)))), (.val (.int .i64 ((stT es k)))), (encQuat (stQ es k)), (.val (.int .i64 (0)))]) := by
  have hk0 := hk
  unfold inE at hk
  refine fn_intro Tryz.func76 rfl cb76 rfl ?_
  show PWp _ _ _ _ ⟨[(0, (vl 56 6 encEdge es)), (1, (vi k))], []⟩
  refine pwp_seq <| kx [(6, (.ref 0 0))] [(0, some (bx (encQuat (RQuat.mk 0 0 0 0))))] (zM <| zM <| zN (oAl 0 ze28 zo28) <| zM <| zZ) ?_
  refine pwp_seq <| pwp_seq <| kx [(13, (vb (decide (0 ≤ k))))] [] (zM <| zE oGe <| zZ) ?_
  refine pwp_cond (b := decide (0 ≤ k)) rfl (fun h1 => ?_) (fun h1 => ?_)
  · replace h1 := of_decide_eq_true h1
    refine pwp_seq <| kx [(8, (.ref 1 0))] [(1, some (bx (encEdge (es.getD ((k).toNat) (REdge.mk 0 0 (RQuat.mk 0 0 0 0))))))] (zM <| zM <| zE (oXl el39 ((k).toNat) (REdge.mk 0 0 (RQuat.mk 0 0 0 0))) <| zE (oCa sh56) <| zN (oAl 1 ze56 zo56) <| zT (oSt sh56) <| zZ) ?_
    refine pwp_seq <| kd [(4, (vi ((es.getD ((k).toNat) (REdge.mk 0 0 (RQuat.mk 0 0 0 0))).fr))), (5, (vi ((es.getD ((k).toNat) (REdge.mk 0 0 (RQuat.mk 0 0 0 0))).to_))), (7, (vin 0))] [(0, some (bx (encQuat ((es.getD ((k).toNat) (REdge.mk 0 0 (RQuat.mk 0 0 0 0))).turn))))] mo (wE (oFr fo56_0) <| wR (oL1 sh3) <| wE (oFr fo56_1) <| wR (oL1 sh3) <| wE (oFr fo56_2) <| wR (oLa sh28) <| wM <| wM <| wT (oSt sh28) <| wM <| wZ) ?_
    refine pwp_ret ⟨_, (.tmp (d := (.val (.int .i64 ((es.getD ((k).toNat) (REdge.mk 0 0 (RQuat.mk 0 0 0 0))).fr)))) rfl (.tmp (d := (.val (.int .i64 ((es.getD ((k).toNat) (REdge.mk 0 0 (RQuat.mk 0 0 0 0))).to_)))) rfl (res_a (cs := (bx (encQuat ((es.getD ((k).toNat) (REdge.mk 0 0 (RQuat.mk 0 0 0 0))).turn)))) (d := (encQuat ((es.getD ((k).toNat) (REdge.mk 0 0 (RQuat.mk 0 0 0 0))).turn))) rfl rfl sh28 rfl rfl (.tmp (d := (.val (.int .i64 (0)))) rfl .nil)))), ?_⟩
    obtain ⟨q1, q2, q3⟩ := st_p (es := es) h1
    rw [q1, q2, q3]; rfl
  · replace h1 := of_decide_eq_false h1
    have hq := htk.at (k := (-1 - k).toNat) (by omega)
    refine pwp_skip <| pwp_seq <| kx [(9, (.ref 2 0))] [(2, some (bx (encEdge (es.getD ((-1 - k).toNat) (REdge.mk 0 0 (RQuat.mk 0 0 0 0))))))] (zM <| zM <| zE (oSb ((-1 - k).toNat) (hr := by exact (wAny (by first | omega | rfl | (dsimp only; omega)) (by simp only [kLo]; omega) (by simp only [kHi]; omega)))) <| zE (oXl el39 ((-1 - k).toNat) (REdge.mk 0 0 (RQuat.mk 0 0 0 0))) <| zE (oCa sh56) <| zN (oAl 2 ze56 zo56) <| zT (oSt sh56) <| zZ) ?_
    refine pwp_seq <| kx [(10, (.ref 3 0)), (11, (vin (qC (qcj ((es.getD ((-1 - k).toNat) (REdge.mk 0 0 (RQuat.mk 0 0 0 0))).turn)))))] [(3, some (bx (encQuat (qV (qcj ((es.getD ((-1 - k).toNat) (REdge.mk 0 0 (RQuat.mk 0 0 0 0))).turn))))))] (zE (oFr fo56_2) <| zR (oLa sh28) <| zE (oCl (l_conj ((es.getD ((-1 - k).toNat) (REdge.mk 0 0 (RQuat.mk 0 0 0 0))).turn) hq)) <| zM <| zE oEx <| zE oEx <| zN (oAl 3 ze28 zo28) <| zT (oSt sh28) <| zM <| zZ) ?_
    refine pwp_seq <| kd [(4, (vi ((es.getD ((-1 - k).toNat) (REdge.mk 0 0 (RQuat.mk 0 0 0 0))).to_))), (5, (vi ((es.getD ((-1 - k).toNat) (REdge.mk 0 0 (RQuat.mk 0 0 0 0))).fr))), (7, (vin (qC (qcj ((es.getD ((-1 - k).toNat) (REdge.mk 0 0 (RQuat.mk 0 0 0 0))).turn)))))] [(0, some (bx (encQuat (qV (qcj ((es.getD ((-1 - k).toNat) (REdge.mk 0 0 (RQuat.mk 0 0 0 0))).turn))))))] mo (wE (oFr fo56_1) <| wR (oL1 sh3) <| wE (oFr fo56_0) <| wR (oL1 sh3) <| wR (oLa sh28) <| wM <| wM <| wM <| wT (oSt sh28) <| wM <| wZ) ?_
    refine pwp_ret ⟨_, (.tmp (d := (.val (.int .i64 ((es.getD ((-1 - k).toNat) (REdge.mk 0 0 (RQuat.mk 0 0 0 0))).to_)))) rfl (.tmp (d := (.val (.int .i64 ((es.getD ((-1 - k).toNat) (REdge.mk 0 0 (RQuat.mk 0 0 0 0))).fr)))) rfl (res_a (cs := (bx (encQuat (qV (qcj ((es.getD ((-1 - k).toNat) (REdge.mk 0 0 (RQuat.mk 0 0 0 0))).turn)))))) (d := (encQuat (qV (qcj ((es.getD ((-1 - k).toNat) (REdge.mk 0 0 (RQuat.mk 0 0 0 0))).turn))))) rfl rfl sh28 rfl rfl (.tmp (d := (.val (.int .i64 ((((qC (qcj ((es.getD ((-1 - k).toNat) (REdge.mk 0 0 (RQuat.mk 0 0 0 0))).turn))) : Nat) : Int))))) rfl .nil)))), ?_⟩
    obtain ⟨q1, q2, q3⟩ := st_n (es := es) h1
    rw [q1, q2, q3, show qC (qcj (es.getD (-1 - k).toNat (REdge.mk 0 0 (RQuat.mk 0 0 0 0))).turn) = 0 from qC_cj hq]; rfl
end Go.Proofs.YtihgdjljnaekmaaGreat
namespace Go.Proofs.YtihgdjljnaekmaaGreat
open Go.Fid
set_option maxRecDepth 4000
set_option linter.unusedVariables false
set_option linter.unusedSimpArgs false
theorem cb48 : callB Tryz.prog 48 = true := by kernel_rfl
theorem cb77 : callB Tryz.prog 77 = true := by kernel_rfl
theorem cb87 : callB Tryz.prog 87 = true := by kernel_rfl
theorem sh39 : shapeB Tryz.prog 39 = some (false, 1) := by kernel_rfl
theorem l_one  : Takes Tryz.prog 87 [] (encQuat q1) := by
  refine fn_intro Tryz.func87 rfl cb87 rfl ?_
  show PWp _ _ _ _ ⟨[], []⟩
  refine pwp_seq <| kx [(0, (.ref 0 0))] [(0, some (bx (encQuat (RQuat.mk 0 0 0 0))))] (zN (oAl 0 ze28 zo28) <| zZ) ?_
  refine pwp_seq <| kx [] [(0, some (bx (encQuat (RQuat.mk 1 0 0 0))))] (zE (oBd pl28 ze28 zo28) <| zT (oSt sh28) <| zZ) ?_
  refine pwp_ret ⟨_, (res_a (cs := (bx (encQuat (RQuat.mk 1 0 0 0)))) (d := (encQuat (RQuat.mk 1 0 0 0))) rfl rfl sh28 rfl rfl .nil), ?_⟩
  rfl
theorem l_aro (es : List REdge) (tau : Nat) (ws : List Int) (hb : es.length ≤ 1000000) (hbw : ws.length ≤ 1000000) (htk : Tok es) (hw : wIn es ws) : Takes Tryz.prog 77 [(.sl 56 6 (List.map encEdge es)), (.sl tau 1 (List.map enc_i64 ws))] (.tup [(encQuat (aroV es ws)), (.val (.int .i64 ((((aroC es ws) : Nat) : Int))))]) := by
  refine fn_intro Tryz.func77 rfl cb77 rfl ?_
  show PWp _ _ _ _ ⟨[(0, (vl 56 6 encEdge es)), (1, (vl tau 1 enc_i64 ws))], []⟩
  refine pwp_seq <| kx [(4, (.ref 0 0))] [(0, some (bx (encQuat (RQuat.mk 0 0 0 0))))] (zN (oAl 0 ze28 zo28) <| zM <| zZ) ?_
  refine pwp_seq <| kx [(6, (.ref 1 0))] [(1, some (bx (encQuat q1)))] (zE (oCl l_one) <| zN (oAl 1 ze28 zo28) <| zT (oSt sh28) <| zZ) ?_
  refine pwp_seq <| pwp_seq <| kx [(14, (vl tau 1 enc_i64 ws)), (15, (vin ws.length)), (16, (vin 0))] [] (zM <| zE (oLm el60) <| zM <| zZ) ?_
  refine pwp_block <| pwp_loop (α := Nat) (fun k => ⟨[(0, (vl 56 6 encEdge es)), (4, (.ref 0 0)), (6, (.ref 1 0)), (14, (vl tau 1 enc_i64 ws)), (15, (vin ws.length)), (16, (vin k))], [(0, some (bx (encQuat (RQuat.mk 0 0 0 0)))), (1, some (bx (encQuat (arV es ws k))))]⟩) (fun k => k ≤ ws.length ∧ arUp es ws k) (fun k => ws.length - k) 0 wk ⟨Nat.zero_le _, arUp_0 _ _⟩ ?_
  rintro k ⟨hk, hv⟩
  refine pwp_seq <| kx [(17, (vb (decide (((k : Nat) : Int) < ((ws.length : Nat) : Int)))))] [] (zE oLt <| zZ) ?_
  refine pwp_seq <| pwp_cond rfl (fun h1 => ?_) (fun h1 => ?_)
  · replace h1 := of_decide_eq_true h1
    refine pwp_skip <| pwp_seq <| pwp_block <| pwp_seq <| kx [(8, (vi (ws.getD k 0)))] [] (zE (oXl el60 k (0 : Int)) <| zE (oC1 sh3) <| zM <| zZ) ?_
    refine pwp_seq <| kx [(11, (.ref 2 0)), (12, (vi 0))] [(2, some (bx (encQuat (stQ es (ws.getD k 0)))))] (zM <| zM <| zE (oCl (l_step es (ws.getD k 0) hb htk (wIn_at hw (by omega)))) <| zM <| zE oEx <| zE oEx <| zE oEx <| zE oEx <| zN (oAl 2 ze28 zo28) <| zM <| zM <| zT (oSt sh28) <| zM <| zZ) ?_
    refine pwp_seq <| pwp_seq <| kx [(29, (vb true))] [] (zM <| zE (oBk true oEq) <| zZ) ?_
    refine pwp_cond (b := true) (by kernel_rfl) (fun _ => ?_) (fun h => by cases h)
    refine kx [(12, (vin (qC (qmul (stQ es (ws.getD k 0)) (arV es ws k)))))] [(1, some (bx (encQuat (qV (qmul (stQ es (ws.getD k 0)) (arV es ws k))))))] (zR (oLa sh28) <| zR (oLa sh28) <| zE (oCl (l_mul (stQ es (ws.getD k 0)) (arV es ws k) (stQ_ok htk (wIn_at hw (by omega))) (arV_ok htk hw (by omega) hv))) <| zM <| zE oEx <| zE oEx <| zT (oSt sh28) <| zM <| zZ) ?_
    refine pwp_seq <| kx [(37, (vb ((((qC (qmul (stQ es (ws.getD k 0)) (arV es ws k))) : Nat) : Int) != ((0 : Nat) : Int))))] [] (zM <| zE oNe <| zZ) ?_
    refine pwp_cond rfl (fun h2 => ?_) (fun h2 => ?_)
    · replace h2 := bne_iff_ne.1 h2
      refine pwp_seq <| kx [(5, (vin (qC (qmul (stQ es (ws.getD k 0)) (arV es ws k)))))] [(0, some (bx (encQuat (RQuat.mk 0 0 0 0))))] (zE (oBd pl28 ze28 zo28) <| zM <| zT (oSt sh28) <| zM <| zZ) ?_
      refine pwp_ret ⟨_, (res_a (cs := (bx (encQuat (RQuat.mk 0 0 0 0)))) (d := (encQuat (RQuat.mk 0 0 0 0))) rfl rfl sh28 rfl rfl (.tmp (d := (.val (.int .i64 ((((qC (qmul (stQ es (ws.getD k 0)) (arV es ws k))) : Nat) : Int))))) rfl .nil)), ?_⟩
      obtain ⟨q1, q2, q3⟩ := aro_no (k := k) (by omega) (rot_ne h2)
      rw [q1, q2, show qC (qmul (stQ es (ws.getD k 0)) (arV es ws k)) = 3 from q3]; rfl
    · replace h2 := bne_eq_false_iff_eq.1 h2
      refine pwp_skip <| kx [(16, (vin (k + 1)))] [] (zE (oAd (k + 1)) <| zM <| zZ) ?_
      exact ⟨(k + 1), wk, ⟨by omega, arUp_s hv (show qC _ = 0 by omega)⟩, (by omega)⟩
  · replace h1 := of_decide_eq_false h1
    refine pwp_exit <| pwp_seq <| kx [(5, (vin 0))] [(0, some (bx (encQuat (arV es ws k))))] (zR (oLa sh28) <| zT (oSt sh28) <| zM <| zZ) ?_
    refine pwp_ret ⟨_, (res_a (cs := (bx (encQuat (arV es ws k)))) (d := (encQuat (arV es ws k))) rfl rfl sh28 rfl rfl (.tmp (d := (.val (.int .i64 (((0 : Nat) : Int))))) rfl .nil)), ?_⟩
    obtain ⟨q1, q2⟩ := aro_yes (by omega) hv
    rw [q1, q2]; rfl
theorem l8_under (p : RQuat) (q : RQuat) (hp : Qok p) (hq : Qok q) : Takes Tryz.prog 48 [(encQuat p), (encQuat q)] (.tup [(encQuat (qV (qmul (qV (qcj p)) q))), (.val (.int .i64 ((((qC (qmul (qV (qcj p)) q)) : Nat) : Int))))]) := by
  refine fn_intro Tryz.func48 rfl cb48 rfl ?_
  show PWp _ _ _ _ ⟨[(0, (.d (encQuat p))), (1, (.d (encQuat q)))], []⟩
  refine pwp_seq <| kx [(2, (.ref 0 0)), (3, (.ref 1 0)), (4, (.ref 2 0))] [(0, some (bx (encQuat p))), (1, some (bx (encQuat q))), (2, some (bx (encQuat (RQuat.mk 0 0 0 0))))] (zN (oBx 0) <| zN (oBx 1) <| zN (oAl 2 ze28 zo28) <| zM <| zZ) ?_
  refine pwp_seq <| kx [(6, (.ref 3 0)), (7, (vin (qC (qcj p))))] [(3, some (bx (encQuat (qV (qcj p)))))] (zR (oLa sh28) <| zE (oCl (l8_conj p hp)) <| zM <| zE oEx <| zE oEx <| zN (oAl 3 ze28 zo28) <| zT (oSt sh28) <| zM <| zZ) ?_
  refine pwp_seq <| pwp_seq <| kx [(14, (vb false))] [] (zM <| zE (oBk false oNe (by exact bne_eq_false_iff_eq.2 (by rw [show (qC (qcj p)) = 0 from (qC_cj hp)]; rfl))) <| zZ) ?_
  refine pwp_cond (b := false) (by kernel_rfl) (fun h => by cases h) (fun _ => ?_)
  refine pwp_skip <| pwp_seq <| kx [(5, (vin (qC (qmul (qV (qcj p)) q))))] [(2, some (bx (encQuat (qV (qmul (qV (qcj p)) q)))))] (zR (oLa sh28) <| zR (oLa sh28) <| zE (oCl (l8_mul (qV (qcj p)) q (qV_ok (qcj_nz hp.1) (qC_cj hp)) hq)) <| zE oEx <| zE oEx <| zT (oSt sh28) <| zM <| zZ) ?_
  refine pwp_ret ⟨_, (res_a (cs := (bx (encQuat (qV (qmul (qV (qcj p)) q))))) (d := (encQuat (qV (qmul (qV (qcj p)) q)))) rfl rfl sh28 rfl rfl (.tmp (d := (.val (.int .i64 ((((qC (qmul (qV (qcj p)) q)) : Nat) : Int))))) rfl .nil)), ?_⟩
  rfl
end Go.Proofs.YtihgdjljnaekmaaGreat
