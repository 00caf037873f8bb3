/- Part 2 of a proof: rules, plain facts, and functions walked. -/
import Derived.Test.YtbecgnplakngdaaGreatM1
import Derived.Deep.LoopGhost
namespace Go.Fid
open Go.RowKit (Below)
def clear1 (news : List Nat) (x : SV) : Bool := news.all fun k => !(x.names k)
def clearL (news : List Nat) (cs : List SV) : Bool := news.all fun k => !(zQ k cs)
def tmpOf : Operand → List Tmp
  | .tmp t => [t]
  | _ => []
def dG (ops : Array Oper) (o : Oper) : List Tmp :=
  (o.op.operands.toList.flatMap tmpOf) ++ match o.guard with
    | some (j, _) => ((ops[j]?).bind (·.dst)).toList
    | none => []
def clearR (ops : Array Oper) (S : SL) (o : Oper) (news : List Nat) (x : SV) : Bool := news.all fun k => !(x.names k) || (dG ops o).any fun d => (qB S d).names k
inductive mW (P : Program) (n : Fr) (ops : Array Oper) (news : List Nat) (st : PS) (o : Oper) : List Nat → List Nat → List Nat → PS → Prop
  | e {rd : List (Nat × List SV)} {x : SV} (h : vO P o (qB st.sl) rd x) (hg : yG ops st.sl o = some true) (hd : hN n o.dst = true) (hrd : ∀ p ∈ rd, uJ st.bs p.1 = some p.2) (hn : clearR ops st.sl o news x = true) :
      mW P n ops news st o news (rd.map (·.1)) [] ⟨putS o.dst x st.sl, st.bs⟩
  | n {k : Nat} {cs : List SV} {x : SV} (h : NOk P o (qB st.sl) k cs x) (hg : yG ops st.sl o = some true) (hd : hN n o.dst = true) (hf : gQ k st = true) (hn : clear1 news x = true) (hc : clearL news cs = true) :
      mW P n ops news st o (k :: news) [] [k] ⟨putS o.dst x st.sl, (k, some cs) :: st.bs⟩
  | t {k : Nat} {old cs : List SV} (h : TOk P o (qB st.sl) k old cs) (hg : yG ops st.sl o = some true) (hd : hN n o.dst = true) (hb : uJ st.bs k = some old) (hc : clearL news cs = true) :
      mW P n ops news st o news [k] [k] ⟨putS o.dst .junk st.sl, (k, some cs) :: st.bs⟩
  | skip (hg : yG ops st.sl o = some false) (hd : hN n o.dst = true) : mW P n ops news st o news [] [] ⟨putS o.dst (.d (.tup [])) st.sl, st.bs⟩
inductive DSteps (P : Program) (n : Fr) (ops : Array Oper) : List Nat → PS → List Oper → List (List Nat × List Nat) → PS → Prop
  | nil {news : List Nat} {st : PS} : DSteps P n ops news st [] [] st
  | cons {news eS r w : List Nat} {st st1 st2 : PS} {o : Oper} {l : List Oper} {acc : List (List Nat × List Nat)} (h : mW P n ops news st o eS r w st1) (hr : DSteps P n ops eS st1 l acc st2) : DSteps P n ops news st (o :: l) ((r, w) :: acc) st2
def directB (ops : Array Oper) (j i : Nat) : Bool := match ops[j]? with
  | some o => o.after.any fun e => Region.binds .any e && Nat.beq e.on i
  | none => false
def ancB (ops : Array Oper) : Nat → Nat → Nat → Bool
  | 0, _, _ => false
  | f + 1, j, i => directB ops j i || match ops[j]? with
    | some o => o.after.any fun e => Region.binds .any e && ancB ops f e.on i
    | none => false
def memB (l : List Nat) (k : Nat) : Bool := l.any (Nat.beq k)
def dstIn (o : Oper) (l : List Tmp) : Bool := match o.dst with
  | some d => memB l d
  | none => false
def meetB (a b : List Nat) : Bool := a.any (memB b)
def needB (ops : Array Oper) (acc : List (List Nat × List Nat)) (i j : Nat) : Bool :=
  match ops[i]?, ops[j]?, acc[i]?, acc[j]? with
  | some oi, some oj, some (ri, wi), some (rj, wj) => dstIn oi (dG ops oj) || dstIn oj (dG ops oi) || dstIn oi oj.dst.toList || meetB wi rj || meetB wi wj || meetB wj ri
  | _, _, _, _ => true
def allPairs (m : Nat) (p : Nat → Nat → Bool) : Bool := (List.range m).all fun j => (List.range j).all fun i => p i j
def orderB (ops : Array Oper) (acc : List (List Nat × List Nat)) : Bool :=
  Nat.beq acc.length ops.size && allPairs ops.size fun i j => !(needB ops acc i j) || ancB ops ops.size j i
theorem memB_iff {l : List Nat} {k : Nat} : memB l k = true ↔ k ∈ l := by
  simp only [memB, List.any_eq_true]
  constructor
  · rintro ⟨x, hx, h⟩
    have := Nat.eq_of_beq_eq_true h
    subst this; exact hx
  · intro h; exact ⟨k, h, by simp⟩
theorem meetB_of {a b : List Nat} {k : Nat} (h1 : k ∈ a) (h2 : k ∈ b) : meetB a b = true := by
  simp only [meetB, List.any_eq_true]
  exact ⟨k, h1, memB_iff.2 h2⟩
section
variable {P : Program} {n : Fr} {ops : Array Oper}
structure Line (P : Program) (n : Fr) (ops : Array Oper) (f : Nat → PS) (g r w : Nat → List Nat) : Prop where
  step : ∀ (i : Nat) o, ops[i]? = some o → mW P n ops (g i) (f i) o (g (i + 1)) (r i) (w i) (f (i + 1))
theorem line_of : ∀ {l : List Oper} {news : List Nat} {st st' : PS} {acc : List (List Nat × List Nat)}, DSteps P n ops news st l acc st' →
    ∃ (f : Nat → PS) (g : Nat → List Nat), f 0 = st ∧ f l.length = st' ∧ g 0 = news ∧ acc.length = l.length ∧ ∀ (i : Nat) o, l[i]? = some o → ∃ r w, acc[i]? = some (r, w) ∧ mW P n ops (g i) (f i) o (g (i + 1)) r w (f (i + 1)) := by
  intro l
  induction l with
  | nil =>
    intro news st st' acc h
    cases h
    exact ⟨fun _ => st, fun _ => news, rfl, rfl, rfl, rfl, by simp⟩
  | cons o l ih =>
    intro news st st' acc h
    cases h with
    | cons h hr =>
      rename_i eS r w st1 acc
      obtain ⟨f, g, h1, h2, h3, h4, h5⟩ := ih hr
      refine ⟨fun i => match i with | 0 => st | i + 1 => f i, fun i => match i with | 0 => news | i + 1 => g i, rfl, h2, rfl, by simp [h4], fun i o' ho => ?_⟩
      cases i with
      | zero =>
        simp at ho
        subst ho
        exact ⟨r, w, rfl, by simpa [h1, h3] using h⟩
      | succ i => exact h5 i o' (by simpa using ho)
end
def L (listed : Array Bool) (i : Nat) : Prop := listed.getD i false = true
def Closed (ops : Array Oper) (listed : Array Bool) : Prop := ∀ (j : Nat) o, ops[j]? = some o → L listed j → ∀ e ∈ o.after, Region.binds .any e = true → L listed e.on
theorem direct_listed {ops : Array Oper} {listed : Array Bool} {j i : Nat} (hd : directB ops j i = true) (hc : ∀ o, ops[j]? = some o → ∀ e ∈ o.after, Region.binds .any e = true → L listed e.on) : L listed i := by
  unfold directB at hd
  split at hd
  · rename_i o ho
    rw [← Array.any_toList, List.any_eq_true] at hd
    obtain ⟨e, he, h⟩ := hd
    simp only [Bool.and_eq_true] at h
    have := Nat.eq_of_beq_eq_true h.2
    subst this
    exact hc o ho e (Array.mem_toList_iff.1 he) h.1
  · cases hd
theorem aL {ops : Array Oper} {listed : Array Bool} (hcl : Closed ops listed) : ∀ (f j i : Nat), ancB ops f j i = true → (∀ o, ops[j]? = some o → ∀ e ∈ o.after, Region.binds .any e = true → L listed e.on) → L listed i
  | 0, j, i, h, _ => by simp [ancB] at h
  | f + 1, j, i, h, hc => by
    simp only [ancB, Bool.or_eq_true] at h
    rcases h with h | h
    · exact direct_listed h hc
    · split at h
      · rename_i o ho
        rw [← Array.any_toList, List.any_eq_true] at h
        obtain ⟨e, he, h⟩ := h
        simp only [Bool.and_eq_true] at h
        have hl := hc o ho e (Array.mem_toList_iff.1 he) h.1
        exact aL hcl f e.on i h.2 fun o' ho' => hcl e.on o' ho' hl
      · cases h
def nI (ops : Array Oper) (i : Nat) : Option Tmp := (ops[i]?).bind (·.dst)
def CurS (ops : Array Oper) (f : Nat → PS) (A : Nat → Prop) (t : Tmp) (x : SV) : Prop :=
  (∃ i, i < ops.size ∧ A i ∧ nI ops i = some t ∧ (∀ j, i < j → j < ops.size → A j → nI ops j ≠ some t) ∧ x = qB (f (i + 1)).sl t) ∨
  ((∀ i, i < ops.size → A i → nI ops i ≠ some t) ∧ x = qB (f 0).sl t)
def eY (ops : Array Oper) (f : Nat → PS) (w : Nat → List Nat) (A : Nat → Prop) (k : Nat) (c : Option (List SV)) : Prop :=
  (∃ i, i < ops.size ∧ A i ∧ k ∈ w i ∧ (∀ j, i < j → j < ops.size → A j → k ∉ w j) ∧ c = uJ (f (i + 1)).bs k) ∨
  ((∀ i, i < ops.size → A i → k ∉ w i) ∧ c = uJ (f 0).bs k)
section
variable {P : Program} {n : Fr} {ops : Array Oper} {f : Nat → PS} {g r w : Nat → List Nat}
theorem dstep_slot {news eS rr ww : List Nat} {st st' : PS} {o : Oper} (h : mW P n ops news st o eS rr ww st') {t : Tmp} (ht : o.dst ≠ some t) : qB st'.sl t = qB st.sl t := by
  cases h <;> simp only [zB, ht, if_false]
theorem dstep_blk {news eS rr ww : List Nat} {st st' : PS} {o : Oper} (h : mW P n ops news st o eS rr ww st') {k : Nat} (hk : k ∉ ww) : uJ st'.bs k = uJ st.bs k := by
  cases h with
  | e => rfl
  | n => simp at hk; simp only [kX]; rw [if_neg (fun e => hk e.symm)]
  | t => simp at hk; simp only [kX]; rw [if_neg (fun e => hk e.symm)]
  | skip => rfl
theorem curS_text (hf : Line P n ops f g r w) (A : Nat → Prop) (t : Tmp) : ∀ i, i ≤ ops.size → (∀ j, j < i → nI ops j = some t → A j) → (∀ j, i ≤ j → j < ops.size → A j → nI ops j ≠ some t) → CurS ops f A t (qB (f i).sl t)
  | 0, _, _, h2 => .inr ⟨fun i hi ha => h2 i (Nat.zero_le _) hi ha, rfl⟩
  | i + 1, hi, h1, h2 => by
    have hlt : i < ops.size := by omega
    have ho : ops[i]? = some ops[i] := Array.getElem?_eq_getElem hlt
    by_cases hd : nI ops i = some t
    · exact .inl ⟨i, hlt, h1 i (by omega) hd, hd, fun j hj hj2 ha => h2 j (by omega) hj2 ha, rfl⟩
    · have hst := hf.step i _ ho
      have hdo : (ops[i]).dst ≠ some t := fun e => hd (by simp [nI, ho, e])
      rw [dstep_slot hst hdo]
      refine curS_text hf A t i (by omega) (fun j hj => h1 j (by omega)) (fun j hj hj2 ha => ?_)
      rcases Nat.lt_or_ge i j with h | h
      · exact h2 j (by omega) hj2 ha
      · obtain rfl : j = i := by omega
        exact hd
theorem curB_text (hf : Line P n ops f g r w) (A : Nat → Prop) (k : Nat) : ∀ i, i ≤ ops.size → (∀ j, j < i → k ∈ w j → A j) → (∀ j, i ≤ j → j < ops.size → A j → k ∉ w j) → eY ops f w A k (uJ (f i).bs k)
  | 0, _, _, h2 => .inr ⟨fun i hi ha => h2 i (Nat.zero_le _) hi ha, rfl⟩
  | i + 1, hi, h1, h2 => by
    have hlt : i < ops.size := by omega
    have ho : ops[i]? = some ops[i] := Array.getElem?_eq_getElem hlt
    by_cases hd : k ∈ w i
    · exact .inl ⟨i, hlt, h1 i (by omega) hd, hd, fun j hj hj2 ha => h2 j (by omega) hj2 ha, rfl⟩
    · have hst := hf.step i _ ho
      rw [dstep_blk hst hd]
      refine curB_text hf A k i (by omega) (fun j hj => h1 j (by omega)) (fun j hj hj2 ha => ?_)
      rcases Nat.lt_or_ge i j with h | h
      · exact h2 j (by omega) hj2 ha
      · obtain rfl : j = i := by omega
        exact hd
theorem curS_old {A A' : Nat → Prop} {i : Nat} (hA : ∀ j, A' j ↔ (A j ∨ j = i)) {t : Tmp} {x : SV} (ht : nI ops i ≠ some t) (h : CurS ops f A' t x) : CurS ops f A t x := by
  rcases h with ⟨j, h1, h2, h3, h4, h5⟩ | ⟨h1, h2⟩
  · refine .inl ⟨j, h1, ?_, h3, fun j' a b c => h4 j' a b ((hA j').2 (.inl c)), h5⟩
    rcases (hA j).1 h2 with h | h
    · exact h
    · subst h; exact absurd h3 ht
  · exact .inr ⟨fun j a b => h1 j a ((hA j).2 (.inl b)), h2⟩
theorem curS_new {A A' : Nat → Prop} {i : Nat} (hi : i < ops.size) (hA : ∀ j, A' j ↔ (A j ∨ j = i)) {t : Tmp} {x : SV} (ht : nI ops i = some t) (hlate : ∀ j, i < j → j < ops.size → A j → nI ops j ≠ some t) (h : CurS ops f A' t x) : x = qB (f (i + 1)).sl t := by
  rcases h with ⟨j, h1, h2, h3, h4, h5⟩ | ⟨h1, h2⟩
  · rcases Nat.lt_trichotomy j i with h | h | h
    · exact absurd ht (h4 i h hi ((hA i).2 (.inr rfl)))
    · subst h; exact h5
    · rcases (hA j).1 h2 with h' | h'
      · exact absurd h3 (hlate j h h1 h')
      · omega
  · exact absurd ht (h1 i hi ((hA i).2 (.inr rfl)))
theorem curB_old {A A' : Nat → Prop} {i : Nat} (hA : ∀ j, A' j ↔ (A j ∨ j = i)) {k : Nat} {c : Option (List SV)} (ht : k ∉ w i) (h : eY ops f w A' k c) : eY ops f w A k c := by
  rcases h with ⟨j, h1, h2, h3, h4, h5⟩ | ⟨h1, h2⟩
  · refine .inl ⟨j, h1, ?_, h3, fun j' a b c => h4 j' a b ((hA j').2 (.inl c)), h5⟩
    rcases (hA j).1 h2 with h | h
    · exact h
    · subst h; exact absurd h3 ht
  · exact .inr ⟨fun j a b => h1 j a ((hA j).2 (.inl b)), h2⟩
theorem curB_new {A A' : Nat → Prop} {i : Nat} (hi : i < ops.size) (hA : ∀ j, A' j ↔ (A j ∨ j = i)) {k : Nat} {c : Option (List SV)} (ht : k ∈ w i) (hlate : ∀ j, i < j → j < ops.size → A j → k ∉ w j) (h : eY ops f w A' k c) : c = uJ (f (i + 1)).bs k := by
  rcases h with ⟨j, h1, h2, h3, h4, h5⟩ | ⟨h1, h2⟩
  · rcases Nat.lt_trichotomy j i with h | h | h
    · exact absurd ht (h4 i h hi ((hA i).2 (.inr rfl)))
    · subst h; exact h5
    · rcases (hA j).1 h2 with h' | h'
      · exact absurd h3 (hlate j h h1 h')
      · omega
  · exact absurd ht (h1 i hi ((hA i).2 (.inr rfl)))
theorem dstep_news {news eS rr ww : List Nat} {st st' : PS} {o : Oper} (h : mW P n ops news st o eS rr ww st') : ∀ k ∈ news, k ∈ eS := by
  intro k hk
  cases h with
  | e => exact hk
  | n => exact List.mem_cons_of_mem _ hk
  | t => exact hk
  | skip => exact hk
theorem curS_from {A : Nat → Prop} {t : Tmp} {x : SV} (h : CurS ops f A t x) : x = qB (f 0).sl t ∨ ∃ i, i < ops.size ∧ A i ∧ nI ops i = some t ∧ x = qB (f (i + 1)).sl t := by
  rcases h with ⟨i, h1, h2, h3, _, h5⟩ | ⟨_, h2⟩
  · exact .inr ⟨i, h1, h2, h3, h5⟩
  · exact .inl h2
theorem news_mono (hf : Line P n ops f g r w) : ∀ {i j : Nat}, i ≤ j → j ≤ ops.size → ∀ k ∈ g i, k ∈ g j := by
  intro i j hij
  induction j with
  | zero => intro _ k hk; obtain rfl : i = 0 := (by omega); exact hk
  | succ j ih =>
    intro hj k hk
    rcases Nat.lt_or_ge i (j + 1) with h | h
    · have h1 := ih (by omega) (by omega) k hk
      exact dstep_news (hf.step j _ (Array.getElem?_eq_getElem (show j < ops.size by omega))) k h1
    · obtain rfl : i = j + 1 := (by omega)
      exact hk
theorem sl_suffix (hf : Line P n ops f g r w) {j : Nat} : ∀ {i : Nat}, j ≤ i → i ≤ ops.size → ∃ l, (f i).sl = l ++ (f j).sl := by
  intro i
  induction i with
  | zero => intro h _; obtain rfl : j = 0 := (by omega); exact ⟨[], rfl⟩
  | succ i ih =>
    intro hj hi
    rcases Nat.lt_or_ge j (i + 1) with h | h
    · obtain ⟨l, hl⟩ := ih (by omega) (by omega)
      have hp : ∀ (dst : Option Tmp) (x : SV), ∃ l', putS dst x (f i).sl = l' ++ (f j).sl := fun dst x => by
        cases dst with
        | none => exact ⟨l, hl⟩
        | some d => exact ⟨(d, x) :: l, by simp [putS, hl]⟩
      have hst := hf.step i _ (Array.getElem?_eq_getElem (show i < ops.size by omega))
      generalize f (i + 1) = st' at hst ⊢
      generalize r i = rr at hst
      generalize w i = ww at hst
      generalize g (i + 1) = gg at hst
      cases hst <;> exact hp _ _
    · obtain rfl : j = i + 1 := (by omega)
      exact ⟨[], rfl⟩
theorem bs_suffix (hf : Line P n ops f g r w) {j : Nat} : ∀ {i : Nat}, j ≤ i → i ≤ ops.size → ∃ l, (f i).bs = l ++ (f j).bs := by
  intro i
  induction i with
  | zero => intro h _; obtain rfl : j = 0 := (by omega); exact ⟨[], rfl⟩
  | succ i ih =>
    intro hj hi
    rcases Nat.lt_or_ge j (i + 1) with h | h
    · obtain ⟨l, hl⟩ := ih (by omega) (by omega)
      have hst := hf.step i _ (Array.getElem?_eq_getElem (show i < ops.size by omega))
      generalize f (i + 1) = st' at hst ⊢
      generalize r i = rr at hst
      generalize w i = ww at hst
      generalize g (i + 1) = gg at hst
      cases hst with
      | e => exact ⟨l, hl⟩
      | n => rename_i k cs x _ _ _ _ _ _; exact ⟨(k, some cs) :: l, by simp [hl]⟩
      | t => rename_i k old cs _ _ _ _ _; exact ⟨(k, some cs) :: l, by simp [hl]⟩
      | skip => exact ⟨l, hl⟩
    · obtain rfl : j = i + 1 := (by omega)
      exact ⟨[], rfl⟩
theorem fresh_sl {k : Nat} {st : PS} (h : gQ k st = true) {l r : SL} (hl : st.sl = l ++ r) (t : Tmp) : (qB r t).names k = false := by
  have h' : gQ k ⟨r, []⟩ = true := by
    simp only [gQ, Bool.and_eq_true, List.all_eq_true, List.all_nil, and_true] at h ⊢
    exact fun p hp => h.1 p (by rw [hl]; exact List.mem_append_right _ hp)
  exact fresh_slot h' t
theorem fresh_bs {k : Nat} {st : PS} (h : gQ k st = true) {l r : BS} (hl : st.bs = l ++ r) {j : Nat} {c : List SV} (hj : uJ r j = some c) : j ≠ k ∧ zQ k c = false := by
  have h' : gQ k ⟨[], r⟩ = true := by
    simp only [gQ, Bool.and_eq_true, List.all_eq_true, List.all_nil, true_and] at h ⊢
    exact fun p hp => h.2 p (by rw [hl]; exact List.mem_append_right _ hp)
  exact fresh_blk h' hj
theorem clear_slot {news eS rr ww : List Nat} {st st' : PS} {o : Oper} (h : mW P n ops news st o eS rr ww st') {k : Nat} (hk : k ∈ news) {d : Tmp} (hd : o.dst = some d) : (qB st'.sl d).names k = false ∨ ∃ t ∈ dG ops o, (qB st.sl t).names k = true := by
  cases h with
  | e _ _ _ _ hn =>
    simp only [zB, hd, if_true]
    simp only [clearR, List.all_eq_true] at hn
    have h1 := hn k hk
    rw [Bool.or_eq_true, List.any_eq_true] at h1
    rcases h1 with h1 | h1
    · left; simpa using h1
    · exact .inr h1
  | n _ _ _ _ hn _ =>
    simp only [zB, hd, if_true]
    simp only [clear1, List.all_eq_true] at hn
    left; simpa using hn k hk
  | t => simp only [zB, hd, if_true]; exact .inl rfl
  | skip => simp only [zB, hd, if_true]; exact .inl rfl
theorem clear_blk {news eS rr ww : List Nat} {st st' : PS} {o : Oper} (h : mW P n ops news st o eS rr ww st') {k : Nat} (hk : k ∈ news) {j : Nat} (hj : j ∈ ww) {c : List SV} (hc : uJ st'.bs j = some c) : zQ k c = false := by
  have g : ∀ x, clearL news x = true → zQ k x = false := fun x hx => by
    simp only [clearL, List.all_eq_true] at hx
    simpa using hx k hk
  cases h with
  | e => simp at hj
  | n _ _ _ _ _ hcl =>
    simp at hj; subst hj
    simp only [kX, if_true, Option.some.injEq] at hc
    subst hc; exact g _ hcl
  | t _ _ _ _ hcl =>
    simp at hj; subst hj
    simp only [kX, if_true, Option.some.injEq] at hc
    subst hc; exact g _ hcl
  | skip => simp at hj
end
def backB (ops : Array Oper) : Bool := (List.range ops.size).all fun j => match ops[j]? with
  | some o => o.after.all fun e => !(Region.binds .any e) || Nat.blt e.on j
  | none => true
structure Inv (C : Ctx) (ops : Array Oper) (f : Nat → PS) (w : Nat → List Nat) (A : Nat → Prop) (a : Act) (wd : World) (D : uT) (β : vP) : Prop where
  base : Base C a wd D
  slots : ∀ t x, CurS ops f A t x → vG wd D β (a.tmps.getD t undef) x
  blks : ∀ k cs, eY ops f w A k (some cs) → yI wd D β k cs
  inj : ∀ k1 k2 c1 c2, eY ops f w A k1 (some c1) → eY ops f w A k2 (some c2) → ∀ b, β k1 = some b → β k2 = some b → k1 = k2
  high : ∀ k c, eY ops f w A k (some c) → ∀ b, β k = some b → C.w0.heap.size ≤ b
def Needs (ops : Array Oper) (r w : Nat → List Nat) (i j : Nat) : Prop :=
  ∀ oi oj, ops[i]? = some oi → ops[j]? = some oj → (∃ d, oi.dst = some d ∧ d ∈ dG ops oj) ∨ (∃ d, oj.dst = some d ∧ d ∈ dG ops oi) ∨ (∃ d, oi.dst = some d ∧ oj.dst = some d) ∨ (∃ k, k ∈ w i ∧ k ∈ r j) ∨ (∃ k, k ∈ w i ∧ k ∈ w j) ∨ (∃ k, k ∈ w j ∧ k ∈ r i) → ancB ops ops.size j i = true
theorem dstIn_of {o : Oper} {l : List Tmp} {d : Tmp} (h : o.dst = some d) (hm : d ∈ l) : dstIn o l = true := by
  simp only [dstIn, h]; exact memB_iff.2 hm
theorem needs_of {ops : Array Oper} {acc : List (List Nat × List Nat)} {r w : Nat → List Nat} (h : orderB ops acc = true) (hacc : ∀ i, i < ops.size → acc[i]? = some (r i, w i)) {i j : Nat} (hij : i < j) (hj : j < ops.size) : Needs ops r w i j := by
  intro oi oj hoi hoj hd
  simp only [orderB, Bool.and_eq_true, allPairs, List.all_eq_true, List.mem_range] at h
  have h1 := h.2 j hj i hij
  simp only [Bool.or_eq_true, Bool.not_eq_true'] at h1
  rcases h1 with h1 | h1
  · simp only [needB, hoi, hoj, hacc i (by omega), hacc j hj, Bool.or_eq_false_iff] at h1
    obtain ⟨⟨⟨⟨⟨q1, q2⟩, q3⟩, q4⟩, q5⟩, q6⟩ := h1
    rcases hd with ⟨d, h2, h3⟩ | ⟨d, h2, h3⟩ | ⟨d, h2, h3⟩ | ⟨k, h2, h3⟩ | ⟨k, h2, h3⟩ | ⟨k, h2, h3⟩
    · rw [dstIn_of h2 h3] at q1; cases q1
    · rw [dstIn_of h2 h3] at q2; cases q2
    · rw [dstIn_of h2 (by simp [h3])] at q3; cases q3
    · rw [meetB_of h2 h3] at q4; cases q4
    · rw [meetB_of h2 h3] at q5; cases q5
    · rw [meetB_of h2 h3] at q6; cases q6
  · exact h1
theorem countP_lt {p q : Nat → Bool} {i : Nat} : ∀ {l : List Nat}, (∀ x ∈ l, p x = true → q x = true) → i ∈ l → q i = true → p i = false → l.countP p < l.countP q
  | [], _, h, _, _ => by simp at h
  | y :: l, hpq, hi, hq, hp => by
    simp only [List.countP_cons]
    have hle : l.countP p ≤ l.countP q := List.countP_mono_left fun x hx => hpq x (by simp [hx])
    rcases List.mem_cons.1 hi with rfl | hi
    · rw [hq, hp]; simp; omega
    · have := countP_lt (fun x hx => hpq x (by simp [hx])) hi hq hp
      have h1 := hpq y (by simp)
      by_cases hy : p y = true
      · rw [hy, h1 hy]; simp; omega
      · simp only [hy]
        split <;> simp at * <;> omega
section
variable {P : Program} {n : Fr} {ops : Array Oper} {f : Nat → PS} {g r w : Nat → List Nat} {C : Ctx} {Q : Exit → Act → World → Prop}
theorem all_listed {listed : Array Bool} (hb : backB ops = true) (hr : Region.ready .any ops listed = []) (hsz : listed.size = ops.size) : ∀ i, i < ops.size → L listed i := by
  intro i
  induction i using Nat.strongRecOn with
  | _ i ih =>
    intro hi
    rcases hL : listed.getD i false with _ | _
    · exfalso
      have : i ∈ Region.ready .any ops listed := by
        rw [mem_ready]
        refine ⟨?_, ops[i], Array.getElem?_eq_getElem hi, fun e he hbd => ?_⟩
        · rw [Array.getD_eq_getD_getElem?] at hL ⊢
          have hlt : i < listed.size := by omega
          simp only [Array.getElem?_eq_getElem hlt, Option.getD_some] at hL ⊢
          exact hL
        · simp only [backB, List.all_eq_true, List.mem_range] at hb
          have h1 := hb i hi
          rw [Array.getElem?_eq_getElem hi] at h1
          simp only [Array.all_eq_true_iff_forall_mem, Bool.or_eq_true, Bool.not_eq_true'] at h1
          rcases h1 e he with h2 | h2
          · rw [hbd] at h2; cases h2
          · have hlt : e.on < i := Nat.le_of_ble_eq_true h2
            exact ih e.on hlt (by omega)
      rw [hr] at this
      cases this
    · exact hL
theorem inv_end (hf : Line P n ops f g r w) {A : Nat → Prop} (hA : ∀ i, i < ops.size → A i) {a : Act} {wd : World} {D : uT} {β : vP} (h : Inv C ops f w A a wd D β) : SimAt C a wd (f ops.size) D β := by
  have hS : ∀ t, CurS ops f A t (qB (f ops.size).sl t) := fun t => curS_text hf A t ops.size (Nat.le_refl _) (fun j hj _ => hA j hj) (fun j h1 h2 => by omega)
  have hB : ∀ k c, uJ (f ops.size).bs k = some c → eY ops f w A k (some c) := fun k c hc => hc ▸ curB_text hf A k ops.size (Nat.le_refl _) (fun j hj _ => hA j hj) (fun j h1 h2 => by omega)
  exact ⟨h.base, ⟨fun k cs hk => h.blks k cs (hB k cs hk), fun k1 k2 c1 c2 h1 h2 => h.inj k1 k2 c1 c2 (hB _ _ h1) (hB _ _ h2)⟩, fun k c hk => h.high k c (hB k c hk), fun t => h.slots t _ (hS t)⟩
end
end Go.Fid
namespace Go.Fid
open Go.RowKit (Below)
section
variable {P : Program} {n : Fr} {ops : Array Oper} {f : Nat → PS} {g r w : Nat → List Nat} {C : Ctx} {Q : Exit → Act → World → Prop}
theorem L_set {listed : Array Bool} {i : Nat} (hi : i < listed.size) (j : Nat) : L (listed.setIfInBounds i true) j ↔ (L listed j ∨ j = i) := by
  unfold L
  simp only [Array.getD_eq_getD_getElem?, Array.getElem?_setIfInBounds]
  by_cases h : i = j
  · subst h; simp [hi]
  · have h' : j ≠ i := fun e => h e.symm
    simp [h, h']
def wpOp1 (P : Program) (ops : Array Oper) (Q : Exit → Act → World → Prop) (i : Nat) (K : Act → World → Prop) (a : Act) (w : World) : Prop :=
  match ops[i]? with
  | none => K a w
  | some o => if Region.wanted o (yielded ops a.tmps) then o.wp P a w K Q else K (a.put o.dst undef) w
theorem op1_lift {n : Fr} {N i : Nat} {K : Act → World → Prop} {a : Act} {w : World} (hp : ops.toList.all gZ = true) (h : wpOp1 P ops Q i K a w) : wpOpIn (fen n) N P ops Q i K a w := by
  unfold wpOp1 at h
  unfold wpOpIn
  cases ho : ops[i]? with
  | none => rw [ho] at h; exact h
  | some o =>
    rw [ho] at h
    simp only at h ⊢
    have hpo : gZ o = true := List.all_eq_true.1 hp o (by
      have := Array.mem_of_getElem? ho
      exact Array.mem_toList_iff.2 this)
    split
    · rename_i e; rw [if_pos e] at h; exact op_lift hpo h
    · rename_i e; rw [if_neg e] at h; exact ⟨fun _ _ => trivial, h⟩
theorem last_writer (hf : Line P n ops f g r w) (i : Nat) (d : Tmp) : ∀ j, i ≤ j → j ≤ ops.size → qB (f j).sl d = qB (f i).sl d ∨ ∃ j', i ≤ j' ∧ j' < j ∧ nI ops j' = some d ∧ qB (f (j' + 1)).sl d = qB (f j).sl d := by
  intro j
  induction j with
  | zero => intro h _; obtain rfl : i = 0 := (by omega); exact .inl rfl
  | succ j ih =>
    intro h1 h2
    by_cases he : i = j + 1
    · subst he; exact .inl rfl
    have ho : ops[j]? = some ops[j] := Array.getElem?_eq_getElem (by omega)
    by_cases hd : nI ops j = some d
    · exact .inr ⟨j, by omega, by omega, hd, rfl⟩
    · have hs : qB (f (j + 1)).sl d = qB (f j).sl d := dstep_slot (hf.step j _ ho) (fun e => hd (by simp [nI, ho, e]))
      rcases ih (by omega) (by omega) with h | ⟨j', a, b, c, e⟩
      · exact .inl (hs.trans h)
      · exact .inr ⟨j', a, by omega, c, e.trans hs.symm⟩
theorem any_step (hn : C.n = n) (hf : Line P n ops f g r w) (hneed : ∀ i j, i < j → j < ops.size → Needs ops r w i j) {listed : Array Bool} (hsz : listed.size = ops.size) (hcl : Closed ops listed)
    {i : Nat} (hi : i < ops.size) (hnot : ¬ L listed i) (hedge : ∀ o, ops[i]? = some o → ∀ e ∈ o.after, Region.binds .any e = true → L listed e.on) {a : Act} {wd : World} {D : uT} {β : vP} (hinv : Inv C ops f w (L listed) a wd D β)
    {K : Act → World → Prop} (hk : ∀ a' wd' D' β', Inv C ops f w (L (listed.setIfInBounds i true)) a' wd' D' β' → K a' wd') : wpOp1 P ops Q i K a wd := by
  have ho : ops[i]? = some ops[i] := Array.getElem?_eq_getElem hi
  generalize hoo : ops[i] = o at ho
  have hst := hf.step i o ho
  have hA := L_set (listed := listed) (i := i) (by omega)
  have hdst : nI ops i = o.dst := by simp [nI, ho]
  -- what must come before i has come; what must come behind i has not
  have before : ∀ j, j < i → ancB ops ops.size i j = true → L listed j := fun j _ h => aL hcl ops.size i j h hedge
  have behind : ∀ j, i < j → j < ops.size → ancB ops ops.size j i = true → ¬ L listed j := fun j _ hj h hl => hnot (aL hcl ops.size j i h fun o' ho' => hcl j o' ho' hl)
  have dst_get : ∀ j t, nI ops j = some t → ∃ oj, ops[j]? = some oj ∧ oj.dst = some t := fun j t h => by
    unfold nI at h
    cases hj : ops[j]? with
    | none => simp [hj] at h
    | some oj => exact ⟨oj, rfl, by simpa [hj] using h⟩
  have lt_of : ∀ j t, nI ops j = some t → j < ops.size := fun j t h => by
    obtain ⟨oj, h1, _⟩ := dst_get j t h
    exact (Array.getElem?_eq_some_iff.1 h1).1
  -- a slot that the operation looks at holds what the text says
  have read : ∀ t, t ∈ dG ops o → vG wd D β (a.tmps.getD t undef) (qB (f i).sl t) := fun t ht => by
    refine hinv.slots t _ (curS_text hf _ t i (by omega) (fun j hj hd => ?_) (fun j hj hj2 hl hd => ?_))
    · obtain ⟨oj, h1, h2⟩ := dst_get j t hd
      exact before j hj (hneed j i hj hi oj o h1 ho (.inl ⟨t, h2, ht⟩))
    · rcases Nat.lt_or_ge i j with h | h
      · obtain ⟨oj, h1, h2⟩ := dst_get j t hd
        exact behind j h hj2 (hneed i j h hj2 o oj ho h1 (.inr (.inl ⟨t, h2, ht⟩))) hl
      · obtain rfl : j = i := (by omega)
        exact hnot hl
  have hop : Opnds wd D β a o (qB (f i).sl) := fun y hy => by
    cases y with
    | tmp t =>
      refine read t ?_
      simp only [dG, List.mem_append, List.mem_flatMap]
      exact .inl ⟨_, Array.mem_toList_iff.2 hy, by simp [tmpOf]⟩
    | const v => exact xF.val v
    | func f => exact xF.val _
    | global g => trivial
  have hwant : ∀ bv, yG ops (f i).sl o = some bv → Region.wanted o (yielded ops a.tmps) = bv := fun bv hg => wanted_of hg fun j want d h1 h2 => read d (by
    simp only [dG, List.mem_append]
    exact .inr (by simp [h1, h2]))
  have late_w : ∀ k, k ∈ w i → ∀ j, i < j → j < ops.size → L listed j → k ∉ w j := fun k hk j hj hj2 hl hkj =>
    behind j hj hj2 (hneed i j hj hj2 o _ ho (Array.getElem?_eq_getElem hj2) (.inr (.inr (.inr (.inr (.inl ⟨k, hk, hkj⟩)))))) hl
  have late_d : ∀ t, o.dst = some t → ∀ j, i < j → j < ops.size → L listed j → nI ops j ≠ some t := fun t ht j hj hj2 hl hd => by
    obtain ⟨oj, h1, h2⟩ := dst_get j t hd
    exact behind j hj hj2 (hneed i j hj hj2 o oj ho h1 (.inr (.inr (.inl ⟨t, ht, h2⟩)))) hl
  have blk_text : ∀ k, (k ∈ r i ∨ k ∈ w i) → eY ops f w (L listed) k (uJ (f i).bs k) := fun k hk => curB_text hf _ k i (by omega) (fun j hj hd => by
      have h1 : ops[j]? = some ops[j] := Array.getElem?_eq_getElem (by omega)
      refine before j hj (hneed j i hj hi _ o h1 ho ?_)
      rcases hk with hk | hk
      · exact .inr (.inr (.inr (.inl ⟨k, hd, hk⟩)))
      · exact .inr (.inr (.inr (.inr (.inl ⟨k, hd, hk⟩))))) (fun j hj hj2 hl hd => by
      rcases Nat.lt_or_ge i j with h | h
      · have h1 : ops[j]? = some ops[j] := Array.getElem?_eq_getElem hj2
        refine behind j h hj2 (hneed i j h hj2 o _ ho h1 ?_) hl
        rcases hk with hk | hk
        · exact .inr (.inr (.inr (.inr (.inr ⟨k, hd, hk⟩))))
        · exact .inr (.inr (.inr (.inr (.inl ⟨k, hk, hd⟩))))
      · obtain rfl : j = i := (by omega)
        exact hnot hl)
  -- names of blocks that are made here
  have name_s : ∀ k, (∀ k', k' = k → gQ k' (f i) = true) → k ∈ g (i + 1) → ∀ t x, CurS ops f (L listed) t x → x.names k = false := fun k hfr hkn t x hc => by
    have clear_from : ∀ m j, j < m → i < j → j < ops.size → L listed j → ∀ t, nI ops j = some t → (qB (f (j + 1)).sl t).names k = false := by
      intro m
      induction m with
      | zero => intro j h; omega
      | succ m ih =>
        intro j hjm hij hj hl t hd
        obtain ⟨oj, h1, h2⟩ := dst_get j t hd
        rcases clear_slot (hf.step j oj h1) (news_mono hf (show i + 1 ≤ j by omega) (by omega) k hkn) h2 with h | ⟨d, hdr, hdn⟩
        · exact h
        · exfalso
          rcases last_writer hf i d j (by omega) (by omega) with hw | ⟨j', q1, q2, q3, q4⟩
          · rw [hw] at hdn
            obtain ⟨l, hl'⟩ := sl_suffix hf (Nat.le_refl i) (by omega)
            rw [fresh_sl (hfr k rfl) (l := []) rfl d] at hdn
            cases hdn
          · obtain ⟨oj', p1, p2⟩ := dst_get j' d q3
            have hanc := hneed j' j q2 hj oj' oj p1 h1 (.inl ⟨d, p2, hdr⟩)
            rcases Nat.lt_or_ge i j' with hlt | hge
            · have hl' : L listed j' := aL hcl ops.size j j' hanc fun o' ho' => hcl j o' ho' hl
              rw [← q4, ih j' (by omega) hlt (by omega) hl' d q3] at hdn
              cases hdn
            · obtain rfl : j' = i := (by omega)
              exact behind j hij hj hanc hl
    have clear_from : ∀ j, i < j → j < ops.size → L listed j → ∀ t, nI ops j = some t → (qB (f (j + 1)).sl t).names k = false := fun j => clear_from (j + 1) j (by omega)
    rcases curS_from hc with h | ⟨j, hj, hl, hd, h⟩
    · subst h
      obtain ⟨l, hl⟩ := sl_suffix hf (Nat.zero_le i) (by omega)
      exact fresh_sl (hfr k rfl) hl t
    · subst h
      rcases Nat.lt_trichotomy j i with hji | hji | hji
      · obtain ⟨l, hl'⟩ := sl_suffix hf (show j + 1 ≤ i by omega) (by omega)
        exact fresh_sl (hfr k rfl) hl' t
      · subst hji; exact absurd hl hnot
      · exact clear_from j hji hj hl t hd
  have name_b : ∀ k, gQ k (f i) = true → k ∈ g (i + 1) → k ∈ w i → ∀ k' c, eY ops f w (L listed) k' (some c) → k' ≠ k ∧ zQ k c = false := fun k hfr hkn hkw k' c hc => by
    rcases hc with ⟨j, hj, hl, hd, hmax, h⟩ | ⟨hno, h⟩
    · rcases Nat.lt_trichotomy j i with hji | hji | hji
      · obtain ⟨l, hl'⟩ := bs_suffix hf (show j + 1 ≤ i by omega) (by omega)
        exact fresh_bs hfr hl' h.symm
      · subst hji; exact absurd hl hnot
      · have h1 : ops[j]? = some ops[j] := Array.getElem?_eq_getElem hj
        refine ⟨fun e => ?_, clear_blk (hf.step j _ h1) (news_mono hf (show i + 1 ≤ j by omega) (by omega) k hkn) hd h.symm⟩
        subst e
        exact late_w k' hkw j hji hj hl hd
    · obtain ⟨l, hl'⟩ := bs_suffix hf (Nat.zero_le i) (by omega)
      exact fresh_bs hfr hl' h.symm
  unfold wpOp1
  rw [ho]
  dsimp only
  subst hn
  have old_s : ∀ t x, o.dst ≠ some t → CurS ops f (L (listed.setIfInBounds i true)) t x → CurS ops f (L listed) t x := fun t x ht hc => curS_old hA (by rw [hdst]; exact ht) hc
  have new_s : ∀ t x, o.dst = some t → CurS ops f (L (listed.setIfInBounds i true)) t x → x = qB (f (i + 1)).sl t := fun t x ht hc => curS_new hi hA (by rw [hdst]; exact ht) (late_d t ht) hc
  have old_b : ∀ k c, k ∉ w i → eY ops f w (L (listed.setIfInBounds i true)) k c → eY ops f w (L listed) k c := fun k c hk hc => curB_old hA hk hc
  have new_b : ∀ k c, k ∈ w i → eY ops f w (L (listed.setIfInBounds i true)) k c → c = uJ (f (i + 1)).bs k := fun k c hk hc => curB_new hi hA hk (late_w k hk) hc
  generalize hfi : f (i + 1) = st' at hst new_s new_b
  generalize hri : r i = rr at hst blk_text
  generalize hwi : w i = ww at hst blk_text old_b new_b name_b
  generalize hgi : g (i + 1) = gg at hst name_s name_b
  cases hst with
  | e h hg hd hrd hcl1 =>
    rename_i rd x
    rw [if_pos (hwant true hg)]
    refine Oper.wp_mono (fun a' wd' hp => ?_) (h a wd D β Q hop (fun p hp => ?_) hinv.base.dok)
    · obtain ⟨v, D', rfl, h1, h2, h3⟩ := hp
      refine hk _ _ D' β ⟨(hinv.base.up h1 h2).put hd _, fun t y hc => ?_, fun k cs hc => (hinv.blks k cs (old_b k _ (by simp) hc)).up h1 h2 hinv.base.dok, fun k1 k2 c1 c2 q1 q2 => hinv.inj k1 k2 c1 c2 (old_b _ _ (by simp) q1) (old_b _ _ (by simp) q2), fun k c hc => hinv.high k c (old_b _ _ (by simp) hc)⟩
      rw [xN hinv.base.size hd]
      by_cases ht : o.dst = some t
      · rw [if_pos ht]
        have := new_s t y ht hc
        simp only [zB, ht, if_true] at this
        subst this; exact h3
      · rw [if_neg ht]
        exact (hinv.slots t y (old_s t y ht hc)).up h1 h2 hinv.base.dok
    · have h1 := blk_text p.1 (.inl (List.mem_map_of_mem hp))
      rw [hrd p hp] at h1
      exact hinv.blks _ _ h1
  | n h hg hd hfr hcl1 hcl2 =>
    rename_i k cs x
    rw [if_pos (hwant true hg)]
    refine Oper.wp_mono (fun a' wd' hp => ?_) (h a wd D β Q hop hinv.base.dok)
    obtain ⟨v, D', b, rfl, h1, h2, h3, h4, h5, h6, h7⟩ := hp
    have hβ : ∀ j, j ≠ k → (β.set k b) j = β j := fun j hj => by simp [vP.set, hj]
    have hlt : ∀ j c, eY ops f w (L listed) j (some c) → ∀ b', β j = some b' → b' < wd.heap.size := fun j c hj b' hb' => by
      rcases hinv.blks j c hj with ⟨q1, _⟩ | ⟨b2, vs, T, q1, q2, _⟩
      · rw [q1] at hb'; cases hb'
      · rw [q1] at hb'; injection hb' with e; subst e; exact zL q2
    have hkk : ∀ c, eY ops f w (L (listed.setIfInBounds i true)) k c → c = some cs := fun c hc => by
      have := new_b k c (by simp) hc
      simpa [kX] using this
    refine hk _ _ D' (β.set k b) ⟨(hinv.base.up h1 h2).put hd _, fun t y hc => ?_, fun j c hc => ?_, fun k1 k2 c1 c2 q1 q2 b' e1 e2 => ?_, fun j c hc b' hb' => ?_⟩
    · rw [xN hinv.base.size hd]
      by_cases ht : o.dst = some t
      · rw [if_pos ht]
        have := new_s t y ht hc
        simp only [zB, ht, if_true] at this
        subst this; exact h7
      · rw [if_neg ht]
        have hc' := old_s t y ht hc
        exact ((hinv.slots t y hc').up h1 h2 hinv.base.dok).frame hβ (name_s k (fun k' e => by subst e; exact hfr) (by simp) t y hc')
    · by_cases hj : j = k
      · subst hj
        have := hkk _ hc
        injection this with this
        subst this; exact h6
      · have hc' := old_b j _ (by simpa using hj) hc
        obtain ⟨q1, q2⟩ := name_b k hfr (by simp) (by simp) j c hc'
        exact ((hinv.blks j c hc').up h1 h2 hinv.base.dok).frame hβ q1 q2
    · by_cases j1 : k1 = k <;> by_cases j2 : k2 = k
      · omega
      · subst j1
        have q2' := old_b k2 _ (by simpa using j2) q2
        rw [hβ k2 j2] at e2
        have := hlt k2 _ q2' b' e2
        simp [vP.set] at e1
        omega
      · subst j2
        have q1' := old_b k1 _ (by simpa using j1) q1
        rw [hβ k1 j1] at e1
        have := hlt k1 _ q1' b' e1
        simp [vP.set] at e2
        omega
      · rw [hβ k1 j1] at e1
        rw [hβ k2 j2] at e2
        exact hinv.inj k1 k2 _ _ (old_b k1 _ (by simpa using j1) q1) (old_b k2 _ (by simpa using j2) q2) b' e1 e2
    · by_cases hj : j = k
      · subst hj
        simp [vP.set] at hb'
        have := hinv.base.below.size
        omega
      · rw [hβ j hj] at hb'
        exact hinv.high j c (old_b j _ (by simpa using hj) hc) b' hb'
  | t h hg hd hb hcl2 =>
    rename_i k old cs
    rw [if_pos (hwant true hg)]
    have hcur : eY ops f w (L listed) k (some old) := by
      have h1 := blk_text k (.inl (by simp))
      rw [hb] at h1
      exact h1
    refine Oper.wp_mono (fun a' wd' hp => ?_) (h a wd D β Q hop (hinv.blks k old hcur) hinv.base.dok)
    obtain ⟨rfl, b, h1, h2, h3, h4⟩ := hp
    have hkk : ∀ c, eY ops f w (L (listed.setIfInBounds i true)) k c → c = some cs := fun c hc => by
      have := new_b k c (by simp) hc
      simpa [kX] using this
    have hold : ∀ j c, eY ops f w (L (listed.setIfInBounds i true)) j (some c) → ∃ c', eY ops f w (L listed) j (some c') := fun j c hc => by
      by_cases hj : j = k
      · subst hj; exact ⟨_, hcur⟩
      · exact ⟨_, old_b j _ (by simpa using hj) hc⟩
    refine hk _ _ D β ⟨(hinv.base.wrote h2 (hinv.high k _ hcur b h1) (blk_heap (hinv.blks k old hcur) h1) h3).put hd _, fun t y hc => ?_, fun j c hc => ?_, fun k1 k2 c1 c2 q1 q2 b' e1 e2 => ?_, fun j c hc b' hb' => ?_⟩
    · rw [xN hinv.base.size hd]
      by_cases ht : o.dst = some t
      · rw [if_pos ht]
        have := new_s t y ht hc
        simp only [zB, ht, if_true] at this
        subst this; trivial
      · rw [if_neg ht]
        exact h2.repS h3 (hinv.slots t y (old_s t y ht hc))
    · by_cases hj : j = k
      · subst hj
        have := hkk _ hc
        injection this with this
        subst this; exact h4
      · have hc' := old_b j _ (by simpa using hj) hc
        exact h2.blk h3 (fun e => hj (hinv.inj j k _ _ hc' hcur b e h1)) (hinv.blks j c hc')
    · obtain ⟨d1, g1⟩ := hold k1 c1 q1
      obtain ⟨d2, g2⟩ := hold k2 c2 q2
      exact hinv.inj k1 k2 d1 d2 g1 g2 b' e1 e2
    · obtain ⟨d1, g1⟩ := hold j c hc
      exact hinv.high j d1 g1 b' hb'
  | skip hg hd =>
    rw [if_neg (by rw [hwant false hg]; simp)]
    refine hk _ _ D β ⟨hinv.base.put hd _, fun t y hc => ?_, fun k cs hc => hinv.blks k cs (old_b k _ (by simp) hc), fun k1 k2 c1 c2 q1 q2 => hinv.inj k1 k2 c1 c2 (old_b _ _ (by simp) q1) (old_b _ _ (by simp) q2), fun k c hc => hinv.high k c (old_b _ _ (by simp) hc)⟩
    rw [xN hinv.base.size hd]
    by_cases ht : o.dst = some t
    · rw [if_pos ht]
      have := new_s t y ht hc
      simp only [zB, ht, if_true] at this
      subst this; exact rep_undef _ _
    · rw [if_neg ht]
      exact hinv.slots t y (old_s t y ht hc)
def unl (ops : Array Oper) (listed : Array Bool) : Nat := (List.range ops.size).countP fun i => !(listed.getD i false)
theorem any_sound (hn : C.n = n) (hf : Line P n ops f g r w) (hneed : ∀ i j, i < j → j < ops.size → Needs ops r w i j) (hback : backB ops = true) (hpl : ops.toList.all gZ = true) {N : Nat} (hk : ∀ a' w', cS C a' w' (f ops.size) → Q .normal a' w') :
    ∀ (fuel : Nat) (listed : Array Bool) (a : Act) (wd : World) (D : uT) (β : vP), listed.size = ops.size → Closed ops listed → unl ops listed ≤ fuel → Inv C ops f w (L listed) a wd D β → wpAnyIn (fen n) N P .any ops Q fuel listed a wd := by
  have fin : ∀ (listed : Array Bool) (a : Act) (wd : World) (D : uT) (β : vP), listed.size = ops.size → Inv C ops f w (L listed) a wd D β → Region.ready .any ops listed = [] → Q .normal a wd := fun listed a wd D β hsz hinv hr =>
    hk a wd ⟨D, β, inv_end hf (all_listed hback hr hsz) hinv⟩
  intro fuel
  induction fuel with
  | zero =>
    intro listed a wd D β hsz hcl hu hinv
    have hr : Region.ready .any ops listed = [] := by
      rw [List.eq_nil_iff_forall_not_mem]
      intro i hi
      obtain ⟨h1, o, h2, _⟩ := mem_ready.1 hi
      have hlt : i < ops.size := (Array.getElem?_eq_some_iff.1 h2).1
      have h0 : unl ops listed = 0 := by omega
      unfold unl at h0
      rw [List.countP_eq_zero] at h0
      have h3 := h0 i (by simpa using hlt)
      rw [Array.getD_eq_getD_getElem?] at h1 h3
      have : i < listed.size := by omega
      simp only [Array.getElem?_eq_getElem this, Option.getD_some] at h1 h3
      rw [h1] at h3
      simp at h3
    exact ⟨hr, fin listed a wd D β hsz hinv hr⟩
  | succ fuel ih =>
    intro listed a wd D β hsz hcl hu hinv
    refine ⟨fin listed a wd D β hsz hinv, fun i hi => ?_⟩
    obtain ⟨h1, o, h2, h3⟩ := mem_ready.1 hi
    have hlt : i < ops.size := (Array.getElem?_eq_some_iff.1 h2).1
    have hls : i < listed.size := by omega
    have hnot : ¬ L listed i := fun h => by
      unfold L at h
      rw [Array.getD_eq_getD_getElem?] at h1 h
      simp only [Array.getElem?_eq_getElem hls, Option.getD_some] at h1 h
      rw [h1] at h; cases h
    have hA := L_set (listed := listed) hls
    refine op1_lift hpl ?_
    refine any_step hn hf hneed hsz hcl hlt hnot (fun o' ho' => by rw [h2] at ho'; injection ho' with e; subst e; exact h3) hinv fun a' wd' D' β' hinv' => ih _ a' wd' D' β' (by simpa using hsz) ?_ ?_ hinv'
    · intro j oj hoj hl e he hb
      rcases (hA j).1 hl with h | h
      · exact (hA _).2 (.inl (hcl j oj hoj h e he hb))
      · subst h
        rw [h2] at hoj
        injection hoj with e'; subst e'
        exact (hA _).2 (.inl (h3 e he hb))
    · have : unl ops (listed.setIfInBounds i true) < unl ops listed := countP_lt (i := i) (fun x _ hx => by
        simp only [Bool.not_eq_true'] at hx ⊢
        rcases h : listed.getD x false with _ | _
        · rfl
        · have := (hA x).2 (.inl h)
          unfold L at this
          rw [this] at hx; cases hx) (by simpa using hlt) (by
          simp only [Bool.not_eq_true']
          rcases h : listed.getD i false with _ | _
          · rfl
          · exact absurd h hnot) (by
          have := (hA i).2 (.inr rfl)
          unfold L at this
          simp [this])
      omega
end
section
variable {P : Program} {n : Fr} {C : Ctx} {Q : Exit → Act → World → Prop}
theorem draw_sound (hn : C.n = n) {ops : Array Oper} {acc : List (List Nat × List Nat)} {st st' : PS} (h : DSteps P n ops [] st ops.toList acc st') (ho : orderB ops acc = true) (hb : backB ops = true) (hpl : ops.toList.all gZ = true) {N : Nat}
    (hk : ∀ a' w', cS C a' w' st' → Q .normal a' w') {a : Act} {wd : World} (hs : cS C a wd st) : wpAnyIn (fen n) N P .any ops Q ops.size (Array.replicate ops.size false) a { wd with drawn := wd.drawn + 1 } := by
  obtain ⟨f, g, h1, h2, h3, h4, h5⟩ := line_of h
  simp only [Array.length_toList] at h2 h4
  obtain ⟨D, β, hs⟩ := hs
  have hacc : ∀ i, i < ops.size → acc[i]? = some ((acc.getD i ([], [])).1, (acc.getD i ([], [])).2) := fun i hi => by
    have hlt : i < acc.length := by omega
    simp [List.getElem?_eq_getElem hlt]
  have hf : Line P n ops f g (fun i => (acc.getD i ([], [])).1) (fun i => (acc.getD i ([], [])).2) := ⟨fun i o hoi => by
    obtain ⟨r, w, e1, e2⟩ := h5 i o (by simpa using hoi)
    have hlt : i < ops.size := (Array.getElem?_eq_some_iff.1 hoi).1
    have e3 := hacc i hlt
    rw [e1] at e3
    injection e3 with e3
    have e4 : (acc.getD i ([], [])).1 = r := (congrArg Prod.fst e3).symm
    have e5 : (acc.getD i ([], [])).2 = w := (congrArg Prod.snd e3).symm
    simp only [e4, e5]
    exact e2⟩
  have hno : ∀ i, ¬ L (Array.replicate ops.size false) i := fun i hi => by
    unfold L at hi
    rw [Array.getD_eq_getD_getElem?, Array.getElem?_replicate] at hi
    split at hi <;> simp at hi
  refine any_sound hn hf (fun i j hij hj => needs_of ho hacc hij hj) hb hpl (fun a' w' hs' => hk a' w' (h2 ▸ hs')) ops.size _ a _ D β (by simp) (fun j o _ hl => absurd hl (hno j)) ?_ ?_
  · unfold unl
    exact Nat.le_trans (List.countP_le_length) (by simp)
  · have hb0 := below_draw wd
    have hu0 : DUp D D wd { wd with drawn := wd.drawn + 1 } := DUp.of_same D
    have hS : ∀ t x, CurS ops f (L (Array.replicate ops.size false)) t x → x = qB st.sl t := fun t x hc => by
      rcases hc with ⟨i, _, hi, _⟩ | ⟨_, e⟩
      · exact absurd hi (hno i)
      · rw [e, h1]
    have hB : ∀ k c, eY ops f (fun i => (acc.getD i ([], [])).2) (L (Array.replicate ops.size false)) k c → uJ st.bs k = c := fun k c hc => by
      rcases hc with ⟨i, _, hi, _⟩ | ⟨_, e⟩
      · exact absurd hi (hno i)
      · rw [e, h1]
    exact ⟨hs.base.draw, fun t x hc => by rw [hS t x hc]; exact (hs.slots t).up hb0 hu0 hs.base.dok, fun k cs hc => (hs.mem.ok k cs (hB k _ hc)).up hb0 hu0 hs.base.dok,
      fun k1 k2 c1 c2 q1 q2 => hs.mem.inj k1 k2 c1 c2 (hB _ _ q1) (hB _ _ q2), fun k c hc => hs.high k c (hB _ _ hc)⟩
end
end Go.Fid
namespace Go.Fid
open Go.RowKit (Below)
def uY (P : Program) (n : Fr) (c : Code) (Q : Exit → PS → Prop) (st : PS) : Prop :=
  ∀ (C : Ctx) (a : Act) (w : World) (N : Nat), C.n = n → cS C a w st → c.wpIn (fen n) N P (fun e a' w' => ∃ st', cS C a' w' st' ∧ Q e st') a w
def PThen (next : PS → Prop) (Q : Exit → PS → Prop) : Exit → PS → Prop
  | .normal, st => next st
  | e, st => Q e st
def PBlock (id : Nat) (Q : Exit → PS → Prop) : Exit → PS → Prop
  | .exit id', st => if id' = id then Q .normal st else Q (.exit id') st
  | e, st => Q e st
def jW (st st' : PS) : Prop := ∀ (C : Ctx) (a : Act) (w : World), cS C a w st → cS C a w st'
section
variable {P : Program} {n : Fr} {Q Q' : Exit → PS → Prop} {st st' : PS}
theorem pwp_mono {c : Code} (h : uY P n c Q st) (hq : ∀ e s, Q e s → Q' e s) : uY P n c Q' st :=
  fun C a w N hn hs => wpIn_mono (h C a w N hn hs) fun _ _ _ ⟨s, h1, h2⟩ => ⟨s, h1, hq _ _ h2⟩
theorem kV {c : Code} (h : jW st st') (hp : uY P n c Q st') : uY P n c Q st := fun C a w N hn hs => hp C a w N hn (h C a w hs)
theorem jA {c d : Code} (h : uY P n c (PThen (uY P n d Q) Q) st) : uY P n (.seq c d) Q st := fun C a w N hn hs => by
  refine wpIn_seq (wpIn_mono (h C a w N hn hs) fun e a' w' ⟨s, h1, h2⟩ => ?_)
  cases e with
  | normal => exact h2 C a' w' N hn h1
  | _ => exact ⟨s, h1, h2⟩
theorem jD (h : Q .normal st) : uY P n .skip Q st := fun _ _ _ _ _ hs => wpIn_skip ⟨st, hs, h⟩
theorem kK {id : Nat} (h : Q (.exit id) st) : uY P n (.exit id) Q st := fun _ _ _ _ _ hs => wpIn_exit ⟨st, hs, h⟩
theorem jH (h : Q .ret st) : uY P n .ret Q st := fun _ _ _ _ _ hs => wpIn_ret ⟨st, hs, h⟩
theorem jE {id : Nat} {c : Code} (h : uY P n c (PBlock id Q) st) : uY P n (.block id c) Q st := fun C a w N hn hs => by
  refine wpIn_block (wpIn_mono (h C a w N hn hs) fun e a' w' ⟨s, h1, h2⟩ => ?_)
  cases e with
  | exit id' =>
    simp only [Exit.inBlock]
    simp only [PBlock] at h2
    split
    · rename_i e; rw [if_pos e] at h2; exact ⟨s, h1, h2⟩
    · rename_i e; rw [if_neg e] at h2; exact ⟨s, h1, h2⟩
  | _ => exact ⟨s, h1, h2⟩
theorem jS {c : Operand} {x y : Code} {b : Bool} (hc : ev (qB st.sl) c = .d (.val (.bool b))) (h1 : b = true → uY P n x Q st) (h2 : b = false → uY P n y Q st) : uY P n (.cond c x y) Q st := fun C a w N hn hs => by
  obtain ⟨D, β, hs'⟩ := id hs
  have hv : a.eval c = .bool b := by
    have : vG w D β (a.eval c) (ev (qB st.sl) c) := by
      cases c with
      | tmp t => exact hs'.slots t
      | const v => exact xF.val v
      | func f => exact xF.val _
      | global g => trivial
    rw [hc] at this
    exact rep_bool this
  exact wpIn_cond_split hv (fun e => h1 e C a w N hn hs) (fun e => h2 e C a w N hn hs)
theorem wpIn_loop_ghost {F : Fence} {N : Nat} {Q : Exit → Act → World → Prop} {a : Act} {w : World} {c : Code} (I : Nat → Act → World → Prop) (n₀ : Nat) (h₀ : I n₀ a w)
    (round : ∀ m a w, I m a w → c.wpIn F N P (Exit.then (fun a' w' => ∃ m', m' < m ∧ I m' a' w') Q) a w) : (Code.loop c).wpIn F N P Q a w := by
  refine wpIn_loop (fun a w => ∃ m, I m a w) (fun a w => leastOf (fun m => I m a w)) ⟨n₀, h₀⟩ ?_
  intro a w hI
  refine wpIn_mono (round _ a w (leastOf_spec hI).1) ?_
  intro e a' w' hq
  cases e with
  | normal =>
    obtain ⟨n', hlt, hI'⟩ := hq
    exact show (∃ m, I m a' w') ∧ leastOf (fun m => I m a' w') < leastOf (fun m => I m a w) from ⟨⟨n', hI'⟩, Nat.lt_of_le_of_lt ((leastOf_spec ⟨n', hI'⟩).2 n' hI') hlt⟩
  | _ => exact hq
theorem uZ {α : Type} {c : Code} (S : α → PS) (I : α → Prop) (μ : α → Nat) (x0 : α) (h0 : jW st (S x0)) (hI : I x0) (round : ∀ x, I x → uY P n c (PThen (fun s => ∃ y, jW s (S y) ∧ I y ∧ μ y < μ x) Q) (S x)) : uY P n (.loop c) Q st := fun C a w N hn hs => by
  refine wpIn_loop_ghost (fun m a w => ∃ x, I x ∧ μ x = m ∧ cS C a w (S x)) (μ x0) ⟨x0, hI, rfl, h0 C a w hs⟩ ?_
  rintro m a w ⟨x, hx, rfl, hsx⟩
  refine wpIn_mono (round x hx C a w N hn hsx) fun e a' w' ⟨s, h1, h2⟩ => ?_
  cases e with
  | normal =>
    obtain ⟨y, g1, g2, g3⟩ := h2
    exact ⟨μ y, g3, y, g2, rfl, g1 C a' w' h1⟩
  | _ => exact ⟨s, h1, h2⟩
theorem sget_eq_or {l : SL} {s : SL} (h : l.map (fun p => qB s p.1) = l.map (·.2)) (t : Nat) : qB l t = .junk ∨ qB l t = qB s t := by
  induction l with
  | nil => exact .inl rfl
  | cons p l ih =>
    obtain ⟨j, x⟩ := p
    simp only [List.map_cons, List.cons.injEq] at h
    rw [vS]
    split
    · rename_i e; subst e; exact .inr h.1.symm
    · exact ih h.2
theorem aA {l : BS} {s : BS} (h : l.map (fun p => uJ s p.1) = l.map (·.2)) {k : Nat} {c : List SV} (hc : uJ l k = some c) : uJ s k = some c := by
  induction l with
  | nil => simp [uJ] at hc
  | cons p l ih =>
    obtain ⟨j, x⟩ := p
    simp only [List.map_cons, List.cons.injEq] at h
    rw [kX] at hc
    split at hc
    · rename_i e; subst e; subst hc; exact h.1
    · exact ih h.2 hc
theorem weak {l : SL} {b : BS} (h1 : l.map (fun p => qB st.sl p.1) = l.map (·.2)) (h2 : b.map (fun p => uJ st.bs p.1) = b.map (·.2)) : jW st ⟨l, b⟩ := fun C a w ⟨D, β, hs⟩ =>
  ⟨D, β, hs.base, ⟨fun k cs hk => hs.mem.ok k cs (aA h2 hk), fun k1 k2 c1 c2 q1 q2 => hs.mem.inj k1 k2 c1 c2 (aA h2 q1) (aA h2 q2)⟩, fun k c hk => hs.high k c (aA h2 hk), fun t => by
    rcases sget_eq_or h1 t with h | h
    · show vG w D β _ (qB l t)
      rw [h]; trivial
    · show vG w D β _ (qB l t)
      rw [h]; exact hs.slots t⟩
theorem jW.refl (st : PS) : jW st st := fun _ _ _ h => h
theorem jW.trans {a b c : PS} (h : jW a b) (k : jW b c) : jW a c := fun C x w hs => k C x w (h C x w hs)
theorem nil_sl (t : TypeId) (s : Nat) : ∀ w D β v, vG w D β v (.d (.val (.slice none 0 0))) → vG w D β v (.d (.sl t s [])) := fun w D β v h => by
  rw [xP h]
  exact aD w D t s
theorem xX {t k s m : Nat} {T : TypeId} {cs : List SV} {es : List kY} (hs : qB st.sl t = .own k T s m) (hb : uJ st.bs k = some cs) (hes : ∀ e ∈ es, e.cells.length = s) (hl : es.length = m) (hc : cs.take (m * s) = (uR es).map .d) :
    jW st ⟨(t, .d (.sl T s es)) :: st.sl, (k, none) :: st.bs⟩ := fun C a w ⟨D, β, h⟩ => by
  have hfl := xK hes
  have hbs : ∀ {j : Nat} {c : List SV}, uJ ((k, none) :: st.bs) j = some c → j ≠ k ∧ uJ st.bs j = some c := fun {j c} hj => by
    rw [kX] at hj
    split at hj
    · cases hj
    · rename_i e; exact ⟨fun e' => e e'.symm, hj⟩
  have ht := h.slots t
  rw [hs] at ht
  rcases ht with ⟨h1, h2, h3⟩ | ⟨b, cap, vs, h1, h2, h3, h4, h5, h6⟩
  · subst h2
    have hn : es = [] := List.eq_nil_of_length_eq_zero hl
    subst hn
    refine ⟨D, β, h.base, ⟨fun j c hj => h.mem.ok j c (hbs hj).2, fun j1 j2 c1 c2 q1 q2 => h.mem.inj j1 j2 c1 c2 (hbs q1).2 (hbs q2).2⟩, fun j c hj => h.high j c (hbs hj).2, fun u => ?_⟩
    show vG w D β _ (qB ((t, _) :: st.sl) u)
    rw [vS]
    split
    · rename_i e; subst e; rw [h3]; exact aD w D T s
    · exact h.slots u
  · have hlt := zL h3
    rcases h.mem.ok k cs hb with ⟨g1, _⟩ | ⟨b', vs', T', g1, g2, g3, g4, g5⟩
    · rw [h1] at g1; cases g1
    · obtain rfl : b = b' := by rw [h1] at g1; injection g1
      rw [h3] at g2
      injection g2 with g2
      injection g2 with g2 gT
      subst g2; subst gT
      have hmono : ∀ t' g o, D t' g o → (D t' g o ∨ (t' = T ∧ g = b ∧ o < m * s)) ∧ w.cell? ⟨g, o, none⟩ = w.cell? ⟨g, o, none⟩ := fun t' g o hd => ⟨.inl hd, rfl⟩
      have hS : ∀ {v x}, vG w D β v x → vG w (fun t' g o => D t' g o ∨ (t' = T ∧ g = b ∧ o < m * s)) β v x := fun {v x} hr => by
        cases x with
        | d x => exact xF.mono hmono hr
        | ref k o => exact hr
        | own k t s n => exact hr
        | clo f ks => exact hr
        | emp => exact hr
        | view k o n => exact hr
        | junk => trivial
      refine ⟨fun t' g o => D t' g o ∨ (t' = T ∧ g = b ∧ o < m * s), β, ⟨h.base.defers, h.base.size, h.base.keep, h.base.oth, h.base.pin, h.base.below, fun t' g o hd => .inl (h.base.dmono _ _ _ hd), fun t' g o hd => ?_, fun t' g o hd => ?_⟩, ⟨fun j c hj => ?_, fun j1 j2 c1 c2 q1 q2 => h.mem.inj j1 j2 c1 c2 (hbs q1).2 (hbs q2).2⟩, fun j c hj => h.high j c (hbs hj).2, fun u => ?_⟩
      · rcases hd with hd | ⟨_, e, _⟩
        · exact h.base.dnew _ _ _ hd
        · subst e; exact .inr (h.high k cs hb g h1)
      · rcases hd with hd | ⟨_, e, _⟩
        · exact h.base.dok _ _ _ hd
        · subst e; exact hlt
      · obtain ⟨hne, hj'⟩ := hbs hj
        rcases h.mem.ok j c hj' with q | ⟨b2, vs2, T2, q1, q2, q3, q4, q5⟩
        · exact .inl q
        · refine .inr ⟨b2, vs2, T2, q1, q2, q3, fun i x hx => ?_, fun t' o hd => ?_⟩
          · obtain ⟨u, e1, e2, e3⟩ := q4 i x hx
            exact ⟨u, e1, e2, hS e3⟩
          · rcases hd with hd | ⟨_, e, _⟩
            · exact q5 _ _ hd
            · subst e; exact hne (h.mem.inj j k _ _ hj' hb b2 q1 h1)
      · show vG w _ β _ (qB ((t, _) :: st.sl) u)
        rw [vS]
        split
        · rename_i e; subst e
          rw [h2]
          have key : ∀ (i : Nat) d, (uR es)[i]? = some d → ∃ u, vs[i]? = some u ∧ u.oneCell' = true ∧ xF w D u d := fun i d hd => by
            have hi : i < m * s := by
              have := (List.getElem?_eq_some_iff.1 hd).1
              rw [hfl, hl] at this; exact this
            have e1 : cs[i]? = some (.d d) := by
              have : (cs.take (m * s))[i]? = some (.d d) := by rw [hc]; simp [hd]
              rwa [List.getElem?_take_of_lt hi] at this
            exact g4 i _ e1
          have hcell : ∀ i, w.cell? ⟨b, i, none⟩ = vs[i]? := fun i => cell_of_row w b i vs T (0, 0) h3
          refine xF.sl b 0 (fun i => vs.getD i undef) hl.symm h5 h6 hes (fun _ => rfl) (fun i hi => .inr ⟨rfl, rfl, by rw [Nat.zero_add, ← hl, ← hfl]; exact hi⟩) (fun i hi => ?_) (fun i hi => ?_) (fun i d hd => ?_)
          · obtain ⟨x, q1, q2, q3⟩ := key i _ (List.getElem?_eq_getElem hi)
            rw [Nat.zero_add, hcell, Array.getD_eq_getD_getElem?, q1]; rfl
          · obtain ⟨x, q1, q2, q3⟩ := key i _ (List.getElem?_eq_getElem hi)
            rw [Array.getD_eq_getD_getElem?, q1]; exact q2
          · obtain ⟨x, q1, q2, q3⟩ := key i d hd
            rw [Array.getD_eq_getD_getElem?, q1]
            exact xF.mono hmono q3
        · exact hS (h.slots u)
end
inductive eA (P : Program) (st : PS) : List ResultVar → List kY → Prop
  | nil : eA P st [] []
  | tmp {t : Tmp} {d : kY} {rs : List ResultVar} {ds : List kY} (h : qB st.sl t = .d d) (hr : eA P st rs ds) : eA P st (.tmp t :: rs) (d :: ds)
  | cell {t : Tmp} {T : TypeId} {k sz : Nat} {agg : Bool} {cs : List SV} {d : kY} {rs : List ResultVar} {ds : List kY} (h : qB st.sl t = .ref k 0) (hb : uJ st.bs k = some cs) (hs : qY P T = some (agg, sz)) (h1 : agg = false → sz = 1) (hl : sz ≤ cs.length)
      (hg : gF agg (cs.take sz) = .d d) (hr : eA P st rs ds) : eA P st (.cell t T :: rs) (d :: ds)
def retD : List kY → kY
  | [d] => d
  | ds => .tup ds
def RetQ (P : Program) (rs : List ResultVar) (r : kY) : Exit → PS → Prop
  | .ret, st => ∃ ds, eA P st rs ds ∧ retD ds = r
  | .normal, st => ∃ ds, eA P st rs ds ∧ retD ds = r
  | _, _ => False
def fE : List kY → Nat → SL
  | [], _ => []
  | d :: r, i => (i, .d d) :: fE r (i + 1)
theorem sget_init : ∀ (ds : List kY) (i t : Nat), qB (fE ds i) t = if i ≤ t then (match ds[t - i]? with | some d => .d d | none => .junk) else .junk
  | [], i, t => by simp [fE, qB]
  | d :: r, i, t => by
    simp only [fE, vS]
    by_cases h : i = t
    · subst h; simp
    · rw [if_neg h, sget_init r (i + 1) t]
      by_cases h2 : i + 1 ≤ t
      · rw [if_pos h2, if_pos (by omega)]
        obtain ⟨q, hq⟩ : ∃ q, t - i = q + 1 := ⟨t - i - 1, by omega⟩
        have : t - (i + 1) = q := by omega
        rw [this, hq, List.getElem?_cons_succ]
      · rw [if_neg h2, if_neg (by omega)]
section
variable {P : Program}
theorem gather_rep {w : World} {D : uT} {β : vP} {T : TypeId} {k sz b : Nat} {agg : Bool} {cs : List SV} (hb : yI w D β k cs) (hk : β k = some b) (hs : qY P T = some (agg, sz)) (h1 : agg = false → sz = 1) (hl : sz ≤ cs.length) :
    ∃ v, (loadVar T ⟨b, 0, none⟩).run P w = .ok v w ∧ vG w D β v (gF agg (cs.take sz)) := by
  obtain ⟨vs, e1, e2, e3⟩ := blk_cells hb hk
  cases agg with
  | true =>
    refine ⟨.agg (vs.take sz).toArray, cZ hs w _ (vs.take sz) (by simp; omega) (fun j u hu => ?_), repS_agg (by simp; omega) (fun v hv => ?_) (fun i v y hv hy => ?_)⟩
    · have hj : j < sz := by
        have := (List.getElem?_eq_some_iff.1 hu).1
        simp at this; omega
      rw [List.getElem?_take_of_lt hj] at hu
      rw [Addr.add_lit, Nat.zero_add]
      exact (e2 _ _ hu).1
    · obtain ⟨j, hj⟩ := List.getElem?_of_mem (List.mem_of_mem_take hv)
      exact (e2 j v hj).2
    · have hj : i < sz := by
        have := (List.getElem?_eq_some_iff.1 hv).1
        simp at this; omega
      rw [List.getElem?_take_of_lt hj] at hv hy
      exact e3 _ _ _ hv hy
  | false =>
    obtain rfl := h1 rfl
    have hlt : 0 < cs.length := by omega
    have hlt' : 0 < vs.length := by omega
    refine ⟨vs[0], dB hs w _ (e2 _ _ (List.getElem?_eq_getElem hlt')).1, ?_⟩
    have : cs.take 1 = [cs[0]] := by
      match cs, hlt with
      | x :: r, _ => rfl
    rw [this]
    exact e3 _ _ _ (List.getElem?_eq_getElem hlt') (List.getElem?_eq_getElem hlt)
def resF (tmps : Array Value) : ResultVar → Sem Value
  | .tmp t => pure (tmps.getD t undef)
  | .cell b t => do loadVar t (← asAddr (tmps.getD b undef))
theorem results_eq (fn : Func) (tmps : Array Value) : results fn tmps = (do let vs ← fn.results.mapM (resF tmps); pure (if h : vs.size = 1 then vs[0] else .tuple vs)) := by
  unfold results
  congr 1
theorem res_run {a : Act} {w : World} {st : PS} {D : uT} {β : vP} (hsl : ∀ t, vG w D β (a.tmps.getD t undef) (qB st.sl t)) (hm : ∀ k cs, uJ st.bs k = some cs → yI w D β k cs) : ∀ {rs : List ResultVar} {ds : List kY}, eA P st rs ds →
    ∃ vs : List Value, (rs.mapM (resF a.tmps)).run P w = .ok vs w ∧ vs.length = ds.length ∧ ∀ (i : Nat) v d, vs[i]? = some v → ds[i]? = some d → xF w D v d := by
  intro rs ds h
  induction h with
  | nil => exact ⟨[], by simp, rfl, by simp⟩
  | tmp h hr ih =>
    rename_i t d rs ds
    obtain ⟨vs, e1, e2, e3⟩ := ih
    have hv := hsl t
    rw [h] at hv
    refine ⟨a.tmps.getD t undef :: vs, ?_, by simp [e2], fun i v d' hv' hd => ?_⟩
    · simp only [List.mapM_cons, resF, Sem.run_bind, Sem.run_pure, Result.andThen_ok, e1]
    · cases i with
      | zero => simp only [List.getElem?_cons_zero, Option.some.injEq] at hv' hd; subst hv'; subst hd; exact hv
      | succ i => exact e3 i v d' (by simpa using hv') (by simpa using hd)
  | cell h hb hsh h1 hl hg hr ih =>
    rename_i t T k sz agg cs d rs ds
    obtain ⟨vs, e1, e2, e3⟩ := ih
    have hv := hsl t
    rw [h] at hv
    obtain ⟨b, hk, hv⟩ := hv
    obtain ⟨v, g1, g2⟩ := gather_rep (hm _ _ hb) hk hsh h1 hl
    rw [hg] at g2
    refine ⟨v :: vs, ?_, by simp [e2], fun i u d' hv' hd => ?_⟩
    · have hrun : (resF a.tmps (.cell t T)).run P w = .ok v w := by
        simp only [resF, Sem.run_bind, hv, asAddr, Sem.run_pure, Result.andThen_ok, g1]
      simp only [List.mapM_cons, Sem.run_bind, hrun, Sem.run_pure, Result.andThen_ok, e1]
    · cases i with
      | zero => simp only [List.getElem?_cons_zero, Option.some.injEq] at hv' hd; subst hv'; subst hd; exact g2
      | succ i => exact e3 i u d' (by simpa using hv') (by simpa using hd)
theorem rep_ret {w : World} {D : uT} : ∀ {vs : List Value} {ds : List kY}, vs.length = ds.length → (∀ (i : Nat) v d, vs[i]? = some v → ds[i]? = some d → xF w D v d) → xF w D (if h : vs.toArray.size = 1 then vs.toArray[0] else .tuple vs.toArray) (retD ds)
  | [], [], _, _ => xF.tup [] rfl (by simp)
  | [v], [d], _, h => h 0 v d rfl rfl
  | v1 :: v2 :: vs, d1 :: d2 :: ds, h1, h2 => by
    rw [dif_neg (by simp)]
    exact xF.tup (v1 :: v2 :: vs) h1 h2
theorem ret_run {a : Act} {w : World} {st : PS} {D : uT} {β : vP} (hsl : ∀ t, vG w D β (a.tmps.getD t undef) (qB st.sl t)) (hm : ∀ k cs, uJ st.bs k = some cs → yI w D β k cs) {fn : Func} {ds : List kY} (h : eA P st fn.results.toList ds) : ∃ v, (results fn a.tmps).run P w = .ok v w ∧ xF w D v (retD ds) := by
  obtain ⟨vs, e1, e2, e3⟩ := res_run (P := P) hsl hm h
  have hrun : (results fn a.tmps).run P w = .ok (if h : vs.toArray.size = 1 then vs.toArray[0] else .tuple vs.toArray) w := by
    rw [results_eq, Array.mapM_eq_mapM_toList, Sem.run_bind, Sem.run_map]
    rw [e1]
    rfl
  exact ⟨_, hrun, rep_ret e2 e3⟩
theorem turned_cell {w : World} {q : Nat} {ob ob' : Obj} (h : w.heap[q]? = some ob) (hc : ob.isCells = false) (hc' : ob'.isCells = false) (g o : Nat) : (w.putObj q ob').cell? ⟨g, o, none⟩ = w.cell? ⟨g, o, none⟩ := by
  by_cases hg : g = q
  · subst hg
    have h2 : (w.putObj g ob').heap[g]? = some ob' := World.putObj_heap_same (zL h)
    have none_of : ∀ {w : World} {ob : Obj}, w.heap[g]? = some ob → ob.isCells = false → w.cell? ⟨g, o, none⟩ = none := fun {w ob} h hc => by
      cases ob <;> first | (simp [World.cell?, h]; done) | simp [Obj.isCells] at hc
    rw [none_of h hc, none_of h2 hc']
  · exact World.cell?_of_block (World.putObj_heap_other hg)
theorem aC {w : World} {q : Nat} {ob ob' : Obj} (h : w.heap[q]? = some ob) (hc : ob.isCells = false) (hc' : ob'.isCells = false) {D : uT} {β : vP} {v : Value} {x : SV} (hx : vG w D β v x) : vG (w.putObj q ob') D β v x := by
  cases x with
  | d x => exact xF.mono (fun t g o hd => ⟨hd, turned_cell h hc hc' g o⟩) hx
  | ref k o => exact hx
  | own k t s n =>
    rcases hx with hx | ⟨b, cap, vs, h1, h2, h3, h4⟩
    · exact .inl hx
    · have hne : b ≠ q := fun e => by subst e; rw [h] at h3; injection h3 with h3; subst h3; cases hc
      exact .inr ⟨b, cap, vs, h1, h2, (World.putObj_heap_other hne).trans h3, h4⟩
  | clo f ks => exact hx
  | emp => exact hx
  | view k o n => exact hx
  | junk => trivial
theorem turned_blk {w : World} {q : Nat} {ob ob' : Obj} (h : w.heap[q]? = some ob) (hc : ob.isCells = false) (hc' : ob'.isCells = false) {D : uT} {β : vP} {k : Nat} {cs : List SV} (hx : yI w D β k cs) : yI (w.putObj q ob') D β k cs := by
  rcases hx with hx | ⟨b, vs, T, h1, h2, h3, h4, h5⟩
  · exact .inl hx
  · have hne : b ≠ q := fun e => by subst e; rw [h] at h2; injection h2 with h2; subst h2; cases hc
    refine .inr ⟨b, vs, T, h1, (World.putObj_heap_other hne).trans h2, h3, fun i x hi => ?_, h5⟩
    obtain ⟨u, e1, e2, e3⟩ := h4 i x hi
    exact ⟨u, e1, e2, aC h hc hc' e3⟩
theorem aM {w0 w : World} {q : Nat} {ob' : Obj} (h : Below w0.heap.size w0 w) (hq : w0.heap.size ≤ q) : Below w0.heap.size w0 (w.putObj q ob') :=
  ⟨h.os, h.tape, h.output, by simpa [World.putObj] using h.size, fun k hk => (World.putObj_heap_other (by omega)).trans (h.block k hk)⟩
theorem leaves_marks {fn : Func} {a : Act} {st : PS} {D D' : uT} {β : vP} {r : kY} {w w0 : World} {ds : List Deferred} {ds' : List kY} (hd : DfOk w0.heap.size w ds) (hsl : ∀ t, vG w D' β (a.tmps.getD t undef) (qB st.sl t))
    (hm : ∀ k cs, uJ st.bs k = some cs → yI w D' β k cs) (cW : Below w0.heap.size w0 w) (hmono : ∀ t g o, D t g o → D' t g o) (hnew : ∀ t g o, D' t g o → D t g o ∨ w0.heap.size ≤ g) (hdok : DOk D' w) (h1 : eA P st fn.results.toList ds') (h2 : retD ds' = r) :
    LeavesInM Fence.wide 0 P fn a.tmps (FPost w0 D r) ds .returning w := by
  induction ds generalizing w with
  | nil =>
    obtain ⟨v, g1, g2⟩ := ret_run (P := P) hsl hm h1
    rw [h2] at g2
    refine ⟨v, g1, v, D', rfl, cW, ⟨hmono, fun t g o hd => ?_⟩, g2⟩
    rcases hnew t g o hd with h3 | h3
    · exact .inl h3
    · exact .inr ⟨h3, hdok _ _ _ hd⟩
  | cons d ds ih =>
    cases hd with
    | cons hqb hqh h3 hr =>
      rename_i q
      refine ⟨by simp, .inl ⟨q, _, rfl, run_takeDeferred hqh, ih (hr.keep fun q' hq' ⟨d, hd, e⟩ => ?_) (fun t => aC hqh rfl rfl (hsl t)) (fun k cs hk => turned_blk hqh rfl rfl (hm k cs hk)) (aM cW hqb) (fun t g o hd => by simpa [World.putObj] using hdok t g o hd)⟩⟩
      have hne : q' ≠ q := fun e' => h3 d hd (e' ▸ e)
      exact (World.putObj_heap_other hne).trans hq'
theorem jK {f : FuncId} {fn : Func} {c : Code} {ds : List kY} {r : kY} (hf : P.funcs[f]? = some fn) (hb : fn.body = some c) (hc : callB P f = true) (hn : Nat.ble ds.length fn.ntmps = true)
    (h : uY P ⟨0, fn.ntmps, none⟩ c (RetQ P fn.results.toList r) ⟨fE ds 0, []⟩) : kD P f ds r :=
  ⟨hc, fun w D vs hD hargs => by
    refine (callsIn_wide (n := 0)).1 (callsIn_of_wp_marks hf hb trivial ?_)
    have hle : ds.length ≤ fn.ntmps := Nat.le_of_ble_eq_true hn
    have hvl := hargs.1
    have hsim : cS ⟨w, D, w, #[], ⟨0, fn.ntmps, none⟩⟩ { tmps := vs.toArray ++ Array.replicate (fn.ntmps - vs.toArray.size) undef, defers := [] } w ⟨fE ds 0, []⟩ := by
      refine ⟨D, fun _ => none, ⟨.nil, by simp; omega, fun _ _ _ _ => rfl, fun _ _ h _ => h, fun t ht => absurd ht (Nat.not_lt_zero t), Below.refl _ _, fun _ _ _ h => h, fun _ _ _ h => .inl h, hD⟩, ⟨fun k cs hk => by simp [uJ] at hk, fun k1 k2 c1 c2 h1 => by simp [uJ] at h1⟩, fun k c hk => by simp [uJ] at hk, fun t => ?_⟩
      show vG w D _ _ (qB (fE ds 0) t)
      rw [sget_init]
      simp only [Nat.zero_le, if_true, Nat.sub_zero]
      cases hd : ds[t]? with
      | none => trivial
      | some d =>
        have ht : t < vs.length := by rw [hvl]; exact (List.getElem?_eq_some_iff.1 hd).1
        refine hargs.2 t _ d ?_ hd
        rw [Array.getD_eq_getD_getElem?, Array.getElem?_append_left (by simpa using ht)]
        simp [ht]
    refine wpIn_mono (h _ _ w 0 rfl hsim) fun e a w' ⟨st, ⟨D', β, hs⟩, hq⟩ => ?_
    have fin : (∃ ds, eA P st fn.results.toList ds ∧ retD ds = r) → LeavesInM Fence.wide 0 P fn a.tmps (FPost w D r) a.defers .returning w' := fun ⟨ds', h1, h2⟩ =>
      leaves_marks hs.base.defers hs.slots (fun k cs hk => hs.mem.ok k cs hk) hs.base.below hs.base.dmono hs.base.dnew hs.base.dok h1 h2
    cases e with
    | normal => exact fin hq
    | ret => exact fin hq
    | exit id => exact hq.elim
    | goto l => exact hq.elim
    | panic ch => exact hq.elim
    | outgrown => exact hq.elim⟩
end
end Go.Fid
namespace Go.Fid
open Go.RowKit (Below)
section
variable {P : Program} {n : Fr} {ops : Array Oper} {S S' : SL} {B B' : BS} {l : List Oper} {o : Oper} {news : List Nat} {acc0 : List (List Nat × List Nat)}
end
section
variable {P : Program} {o : Oper} {S : Nat → SV}
theorem e_lda {T : TypeId} {x : Operand} {k off sz : Nat} {cs : List SV} {y : SV} (ho : o.op = .load T x) (hx : ev S x = .ref k off) (hs : qY P T = some (true, sz)) (hl : Nat.ble (off + sz) cs.length = true) (hy : gF true ((cs.drop off).take sz) = y) : vO P o S [(k, cs)] y :=
  hy ▸ e_load_ref ho hx hs (fun h => by cases h) (Nat.le_of_ble_eq_true hl)
theorem e_ld1 {T : TypeId} {x : Operand} {k off : Nat} {cs : List SV} {y : SV} (ho : o.op = .load T x) (hx : ev S x = .ref k off) (hs : qY P T = some (false, 1)) (hy : cs[off]? = some y) : vO P o S [(k, cs)] y := by
  have hlt := (List.getElem?_eq_some_iff.1 hy).1
  have h := e_load_ref (P := P) (cs := cs) ho hx hs (fun _ => rfl) (by omega)
  have e : (cs.drop off).take 1 = [y] := by
    rw [List.drop_eq_getElem_cons hlt]
    have : cs[off] = y := (List.getElem?_eq_some_iff.1 hy).2
    simp [this]
  rw [e] at h
  exact h
theorem e_lca {T t : TypeId} {x : Operand} {off sz : Nat} {cs : List kY} {y : SV} (ho : o.op = .load T x) (hx : ev S x = .d (.cptr t cs off)) (hs : qY P T = some (true, sz)) (hl : Nat.ble (off + sz) cs.length = true) (hy : gF true (((cs.drop off).take sz).map .d) = y) : vO P o S [] y :=
  hy ▸ e_load_cptr ho hx hs (fun h => by cases h) (Nat.le_of_ble_eq_true hl)
theorem e_lc1 {T t : TypeId} {x : Operand} {off : Nat} {cs : List kY} {y : kY} (ho : o.op = .load T x) (hx : ev S x = .d (.cptr t cs off)) (hs : qY P T = some (false, 1)) (hy : cs[off]? = some y) : vO P o S [] (.d y) := by
  have hlt := (List.getElem?_eq_some_iff.1 hy).1
  have h := e_load_cptr (P := P) (cs := cs) ho hx hs (fun _ => rfl) (by omega)
  have e : ((cs.drop off).take 1).map SV.d = [.d y] := by
    rw [List.drop_eq_getElem_cons hlt]
    have : cs[off] = y := (List.getElem?_eq_some_iff.1 hy).2
    simp [this]
  rw [e] at h
  exact h
theorem e_pkt {c x y : Operand} {z : SV} (ho : o.op = .pick c x y) (hc : ev S c = .d (.val (.bool true))) (hx : ev S x = z) : vO P o S [] z := by
  have := e_pick (P := P) ho hc
  simpa [hx] using this
theorem e_pkf {c x y : Operand} {z : SV} (ho : o.op = .pick c x y) (hc : ev S c = .d (.val (.bool false))) (hy : ev S y = z) : vO P o S [] z := by
  have := e_pick (P := P) ho hc
  simpa [hy] using this
theorem e_ixs {T E t : TypeId} {x ix : Operand} {s : Nat} {es : List kY} {k : IntKind} {i : Int} {j : Nat} {cs : List kY} (ho : o.op = .indexAddr T x ix) (hT : xO P T = some (E, s)) (hx : ev S x = .d (.sl t s es)) (hi : ev S ix = .d (.val (.int k i)))
    (hj : i = (j : Int)) (he : es[j]?.map kY.cells = some cs) : vO P o S [] (.d (.cptr t cs 0)) := by
  subst hj
  rw [Option.map_eq_some_iff] at he
  obtain ⟨e, h1, rfl⟩ := he
  exact e_index_sl ho hT hx hi (by omega) (by simpa using h1)
theorem e_ixo {T E t : TypeId} {x ix : Operand} {s b n q : Nat} {k : IntKind} {i : Int} {j : Nat} (ho : o.op = .indexAddr T x ix) (hT : xO P T = some (E, s)) (hx : ev S x = .own b t s n) (hi : ev S ix = .d (.val (.int k i)))
    (hj : i = (j : Int)) (h1 : j < n) (hq : j * s = q) : vO P o S [] (.ref b q) := by
  subst hj; subst hq
  have h := e_index_own (P := P) ho hT hx hi (by omega) (by omega)
  simpa using h
theorem e_ixar {T E : TypeId} {x ix : Operand} {s b n p q : Nat} {k : IntKind} {i : Int} {j : Nat} (ho : o.op = .indexAddr T x ix) (hT : cX P T = some (n, E, s)) (hx : ev S x = .ref b p) (hi : ev S ix = .d (.val (.int k i)))
    (hj : i = (j : Int)) (h1 : j < n) (hq : p + j * s = q) : vO P o S [] (.ref b q) := by
  subst hj; subst hq
  have h := e_index_aref (P := P) ho hT hx hi (by omega) (by omega)
  simpa using h
theorem e_exD {x : Operand} {i : Nat} {ds : List kY} {d : kY} (ho : o.op = .extract x i) (hx : ev S x = .d (.tup ds)) (hd : ds[i]? = some d) : vO P o S [] (.d d) := e_extract ho hx hd
theorem e_fldv {T t : TypeId} {x : Operand} {f off sz : Nat} {cs : List kY} {y : SV} (ho : o.op = .field T x f) (hx : ev S x = .d (.agg cs)) (hf : aN P T f = some (off, t)) (hs : qY P t = some (true, sz)) (hle : Nat.ble (off + sz) cs.length = true) (hy : gF true (((cs.drop off).take sz).map .d) = y) : vO P o S [] y :=
  hy ▸ e_field ho hx hf hs (fun h => by cases h) (Nat.le_of_ble_eq_true hle)
theorem e_fld1 {T t : TypeId} {x : Operand} {f off : Nat} {cs : List kY} {y : SV} (ho : o.op = .field T x f) (hx : ev S x = .d (.agg cs)) (hf : aN P T f = some (off, t)) (hs : qY P t = some (false, 1)) (hle : Nat.ble (off + 1) cs.length = true) (hy : gF false (((cs.drop off).take 1).map .d) = y) : vO P o S [] y :=
  hy ▸ e_field ho hx hf hs (fun _ => rfl) (Nat.le_of_ble_eq_true hle)
theorem t_std {T : TypeId} {x y : Operand} {k off sz : Nat} {agg : Bool} {old cs : List SV} {d : kY} (ho : o.op = .store T x y) (hx : ev S x = .ref k off) (hy : ev S y = .d d) (hs : qY P T = some (agg, sz)) (h1 : d.ok1 = true) (vR : d.cells.length = sz) (hle : Nat.ble (off + sz) old.length = true)
    (hc : patch old off (d.cells.map .d) = cs) : TOk P o S k old cs := hc ▸ t_store ho hx hy hs (.inl ⟨d, rfl, h1, rfl⟩) (by simpa using vR) (Nat.le_of_ble_eq_true hle)
theorem t_st1 {T : TypeId} {x y : Operand} {k off : Nat} {old cs : List SV} {d : kY} (ho : o.op = .store T x y) (hx : ev S x = .ref k off) (hy : ev S y = .d d) (hs : qY P T = some (false, 1)) (h1 : d.ok1 = true) (hcl : d.cells = [d]) (hle : off < old.length) (hc : old.set off (.d d) = cs) : TOk P o S k old cs := by
  have h := t_store (P := P) (old := old) ho hx hy hs (.inl ⟨d, rfl, h1, rfl⟩) (by simp [hcl]) (by omega)
  have e : patch old off (d.cells.map .d) = old.set off (.d d) := by
    rw [hcl]
    apply List.ext_getElem?
    intro i
    rw [mB (by simp; omega), List.getElem?_set]
    simp only [List.map_cons, List.map_nil, List.length_cons, List.length_nil, Nat.zero_add]
    by_cases c1 : i < off
    · rw [if_pos c1, if_neg (by omega)]
    · rw [if_neg c1]
      by_cases c2 : off = i
      · subst c2; simp [hle]
      · rw [if_neg (by omega), if_neg c2]
  rw [e, hc] at h
  exact h
theorem e_cl {y : Operand} {xs : List Operand} {ats : Array TypeId} {f : FuncId} {ds : List kY} {r : kY} (hf : kD P f ds r) (ho : o.op = .call { callee := .value y, args := xs.toArray, argTypes := ats }) (hy : ev S y = .d (.val (.func (.func f) #[] #[]))) (hx : xs.map (ev S) = ds.map .d) : vO P o S [] (.d r) := e_call ho hy hx hf
end
theorem wi64 {m r : Int} (h : m = r) (h1 : -9223372036854775808 ≤ r) (h2 : r ≤ 9223372036854775807) : IntKind.i64.wrap m = r := by
  subst h
  rw [IntKind.wrap_i64]; omega
theorem wu64 {m r : Int} (h : m = r) (h1 : 0 ≤ r) (h2 : r ≤ 18446744073709551615) : IntKind.u64.wrap m = r := by
  subst h
  have : IntKind.u64.wrap m = m % 18446744073709551616 := by
    simp [IntKind.wrap, IntKind.bits, IntKind.signed]
  rw [this]; omega
theorem wu32 {m r : Int} (h : m = r) (h1 : 0 ≤ r) (h2 : r ≤ 4294967295) : IntKind.u32.wrap m = r := by
  subst h
  have : IntKind.u32.wrap m = m % 4294967296 := by
    simp [IntKind.wrap, IntKind.bits, IntKind.signed]
  rw [this]; omega
theorem wu8 {m r : Int} (h : m = r) (h1 : 0 ≤ r) (h2 : r ≤ 255) : IntKind.u8.wrap m = r := by
  subst h
  have : IntKind.u8.wrap m = m % 256 := by
    simp [IntKind.wrap, IntKind.bits, IntKind.signed]
  rw [this]; omega
end Go.Fid
namespace Go.Fid
open Go.RowKit (Below)
def bx (d : kY) : List SV := d.cells.map .d
def jB (g : Nat) : kY := .val (.int .u32 (g : Int))
def vL (g : Int) : kY := .val (.int .i64 g)
section
variable {α : Type}
theorem own_get (F : α → kY) (L : List α) (j : Nat) (d : α) (h : j < L.length) : (L.map (fun g => SV.d (F g)))[j]? = some (.d (F (L.getD j d))) := by
  simp [List.getD, List.getElem?_eq_getElem h]
theorem ixm (F : α → kY) (L : List α) (j : Nat) (d : α) (h : j < L.length) : ((L.map F)[j]?).map kY.cells = some ((F (L.getD j d)).cells) := by
  simp [List.getD, List.getElem?_eq_getElem h]
theorem own_len (F : α → kY) (L : List α) (j : Nat) (h : j < L.length) : j < (L.map (fun g => SV.d (F g))).length := by simpa using h
theorem own_set (F : α → kY) (L : List α) (j : Nat) (v : α) : (L.map (fun g => SV.d (F g))).set j (.d (F v)) = (L.set j v).map (fun g => SV.d (F g)) := by
  rw [List.map_set]
theorem own_zero (F : α → kY) (m : Nat) (z : α) : ((List.replicate m [F z]).flatten.map SV.d) = (List.replicate m z).map (fun g => SV.d (F g)) := by
  induction m with
  | zero => rfl
  | succ m ih =>
    rw [List.replicate_succ, List.replicate_succ, List.flatten_cons, List.map_append, ih]
    rfl
theorem flat_one (F : α → kY) (hF : ∀ g, (F g).cells = [F g]) (L : List α) : uR (L.map F) = L.map F := by
  induction L with
  | nil => rfl
  | cons x l ih => rw [List.map_cons, dT, ih, hF]; rfl
theorem xL (F : α → kY) (L : List α) (hF : ∀ g, (F g).cells = [F g]) : ∀ e ∈ L.map F, e.cells.length = 1 := by
  intro e he
  obtain ⟨g, _, rfl⟩ := List.mem_map.1 he
  rw [hF]; rfl
theorem zP (F : α → kY) (L : List α) (hF : ∀ g, (F g).cells = [F g]) {m : Nat} (h : L.length = m) : (L.map (fun g => SV.d (F g))).take (m * 1) = (uR (L.map F)).map .d := by
  rw [flat_one F hF, List.map_map, Nat.mul_one, ← h]
  rw [List.take_of_length_le (by simp)]
  rfl
theorem xQ (F : α → kY) (L : List α) {m : Nat} (h : L.length = m) : (L.map F).length = m := by simpa using h
end
section
variable {P : Program} {o : Oper} {S : Nat → SV}
theorem e_ln {T E t : TypeId} {x : Operand} {s : Nat} {es : List kY} {r : Int} (ho : o.op = .call { callee := .builtin .len, args := #[x], argTypes := #[T] }) (hT : xO P T = some (E, s)) (hx : ev S x = .d (.sl t s es)) (hr : (es.length : Int) = r) : vO P o S [] (.d (.val (.int .i64 r))) := hr ▸ e_len_sl ho hT hx
theorem e_slc {T E t : TypeId} {x : Operand} {lo hi : Option Operand} {s l h : Nat} {kl kh : IntKind} {es es' : List kY} (ho : o.op = .slice T x lo hi none) (hT : xO P T = some (E, s)) (hx : ev S x = .d (.sl t s es)) (hlo : optInt S lo kl 0 l) (hhi : optInt S hi kh es.length h)
    (h1 : l ≤ h) (h2 : h ≤ es.length) (he : (es.take h).drop l = es') : vO P o S [] (.d (.sl t s es')) := he ▸ e_slice ho hT hx hlo hhi h1 h2
theorem n_mks {T E : TypeId} {l c : Operand} {s n m bytes : Nat} {kl kc : IntKind} {zv : List Value} {zd : List kY} {cs : List SV} (k : Nat) (ho : o.op = .makeSlice T l c) (hT : xO P T = some (E, s)) (hz : xC P E = some zv) (hzd : nV zv zd) (hzl : zd.length = s) (hby : nK P E = some bytes)
    (hl : ev S l = .d (.val (.int kl (n : Int)))) (hc : ev S c = .d (.val (.int kc (m : Int)))) (hnm : n ≤ m) (hb : bytes * m ≤ 281474976710656) (hm : m ≤ maxLen) (hcs : (List.replicate m zd).flatten.map .d = cs) : NOk P o S k cs (.own k E s n) := hcs ▸ n_makeSlice k ho hT hz hzd hzl hby hl hc hnm hb hm
theorem e_maxn {T T' : TypeId} {x y : Operand} {k : IntKind} {m n r : Int} (ho : o.op = .call { callee := .builtin .max, args := #[x, y], argTypes := #[T, T'] }) (hx : ev S x = .d (.val (.int k m))) (hy : ev S y = .d (.val (.int k n))) (hr : (if m < n then n else m) = r) : vO P o S [] (.d (.val (.int k r))) := hr ▸ e_max ho hx hy
theorem kZ {st : PS} {t : Tmp} {T : TypeId} {k sz : Nat} {cs : List SV} {d : kY} {rs : List ResultVar} {ds : List kY} (h : qB st.sl t = .ref k 0) (hb : uJ st.bs k = some cs) (hs : qY P T = some (true, sz)) (hl : Nat.ble sz cs.length = true) (hg : gF true (cs.take sz) = .d d) (hr : eA P st rs ds) : eA P st (.cell t T :: rs) (d :: ds) :=
  .cell h hb hs (fun h => by cases h) (Nat.le_of_ble_eq_true hl) hg hr
theorem res_1 {st : PS} {t : Tmp} {T : TypeId} {k : Nat} {cs : List SV} {d : kY} {rs : List ResultVar} {ds : List kY} (h : qB st.sl t = .ref k 0) (hb : uJ st.bs k = some cs) (hs : qY P T = some (false, 1)) (hl : Nat.ble 1 cs.length = true) (hg : gF false (cs.take 1) = .d d) (hr : eA P st rs ds) : eA P st (.cell t T :: rs) (d :: ds) :=
  .cell h hb hs (fun _ => rfl) (Nat.le_of_ble_eq_true hl) hg hr
end
theorem tmod_nat (a b : Nat) : Int.tmod (a : Int) (b : Int) = ((a % b : Nat) : Int) := rfl
theorem quo_le {a b m : Nat} (h : a ≤ m) : ((a / b : Nat) : Int) ≤ (m : Int) := Int.ofNat_le.2 (Nat.le_trans (Nat.div_le_self a b) h)
theorem quo_u64 (a b : Nat) (h : a ≤ 18446744073709551615) : IntKind.u64.wrap (Int.tdiv (a : Int) (b : Int)) = ((a / b : Nat) : Int) :=
  wu64 rfl (Int.natCast_nonneg _) (quo_le h)
end Go.Fid
namespace Go.Fid
open Go.RowKit (Below)
def hP (k : Nat) : SL → SL
  | [] => []
  | (t, x) :: r => (t, bif x.names k then .junk else x) :: hP k r
theorem eO (k : Nat) : ∀ (l : SL) (t : Nat), qB (hP k l) t = bif (qB l t).names k then .junk else qB l t
  | [], t => rfl
  | (j, x) :: r, t => by
    simp only [hP, vS]
    split
    · rfl
    · exact eO k r t
theorem forget_slot {w : World} {D : uT} {β : vP} {v : Value} {k : Nat} {x : SV} (h : x.names k = false → vG w D β v x) : vG w D β v (bif x.names k then .junk else x) := by
  cases hx : x.names k with
  | true => trivial
  | false => exact h hx
theorem Mem.mask {w : World} {D : uT} {β : vP} {bs : BS} (h : Mem w D β bs) (k : Nat) : Mem w D β ((k, none) :: bs) :=
  ⟨fun j c hj => by
    rw [kX] at hj
    split at hj
    · cases hj
    · exact h.ok j c hj, fun j1 j2 c1 c2 h1 h2 => by
    rw [kX] at h1 h2
    split at h1
    · cases h1
    · split at h2
      · cases h2
      · exact h.inj j1 j2 c1 c2 h1 h2⟩
theorem Mem.unmask {w : World} {D : uT} {β : vP} {bs : BS} {k : Nat} {cs : List SV} (h : Mem w D β ((k, some cs) :: (k, none) :: bs)) : Mem w D β ((k, some cs) :: bs) := by
  have e : ∀ j, uJ ((k, some cs) :: bs) j = uJ ((k, some cs) :: (k, none) :: bs) j := fun j => by
    simp only [kX]
    split <;> rfl
  exact ⟨fun j c hj => h.ok j c (e j ▸ hj), fun j1 j2 c1 c2 h1 h2 => h.inj j1 j2 c1 c2 (e j1 ▸ h1) (e j2 ▸ h2)⟩
section
variable {P : Program} {n : Fr} {C : Ctx} {a : Act} {w : World} {st : PS} {D : uT} {β : vP} {dst : Option Tmp} {k : Nat} {cs : List SV} {x : SV}
theorem grew_new (hs : SimAt C a w st D β) {w' : World} {b : Nat} {v : Value} (hb : Below w.heap.size w w') (hge : w.heap.size ≤ b) (hd : hN C.n dst = true) (hB : ∀ j c, j ≠ k → uJ st.bs j = some c → zQ k c = false)
    (hk : yI w' D (β.set k b) k cs) (hx : vG w' D (β.set k b) v x) : cS C (a.put dst v) w' ⟨putS dst x (hP k st.sl), (k, some cs) :: st.bs⟩ := by
  have hβ : ∀ j, j ≠ k → (β.set k b) j = β j := fun j hj => by simp [vP.set, hj]
  have hu : DUp D D w w' := DUp.of_same D
  refine ⟨D, β.set k b, (hs.base.up hb hu).put hd _, ((hs.mem.mask k).new hb hu hs.base.dok hge (fun j c hj => ?_) hk).unmask, fun j c hj b' hb' => ?_, fun t => ?_⟩
  · rw [kX] at hj
    split at hj
    · cases hj
    · rename_i hne; exact ⟨fun e => hne e.symm, hB j c (fun e => hne e.symm) hj⟩
  · rw [kX] at hj
    split at hj
    · rename_i e; subst e
      simp [vP.set] at hb'
      have := hs.base.below.size
      omega
    · rename_i hne
      rw [hβ j (fun e => hne e.symm)] at hb'
      exact hs.high j c hj b' hb'
  · rw [xN hs.base.size hd, zB]
    split
    · exact hx
    · rw [eO]
      exact forget_slot fun hn => ((hs.slots t).up hb hu hs.base.dok).frame hβ hn
theorem grew_room (hs : SimAt C a w st D β) {w' : World} {b : Nat} {v : Value} {old : List SV} (hw : Wrote b w w') (hkb : β k = some b) (hp : ∀ t o, ¬ D t b o) (hold : uJ st.bs k = some old) (hd : hN C.n dst = true)
    (hk : yI w' D β k cs) (hx : vG w' D β v x) : cS C (a.put dst v) w' ⟨putS dst x (hP k st.sl), (k, some cs) :: st.bs⟩ := by
  refine ⟨D, β, (hs.base.wrote hw (hs.high k _ hold b hkb) (blk_heap (hs.mem.ok k _ hold) hkb) hp).put hd _, hs.mem.write hw hp hkb hold hk, fun j c hj b' hb' => ?_, fun t => ?_⟩
  · rw [kX] at hj
    split at hj
    · rename_i e; subst e; exact hs.high k _ hold b' hb'
    · exact hs.high j c hj b' hb'
  · rw [xN hs.base.size hd, zB]
    split
    · exact hx
    · rw [eO]
      exact forget_slot fun _ => hw.repS hp (hs.slots t)
theorem grew_same (hs : SimAt C a w st D β) {v : Value} (hd : hN C.n dst = true) (hk : yI w D β k cs) (hold : ∃ old, uJ st.bs k = some old) (hx : vG w D β v x) : cS C (a.put dst v) w ⟨putS dst x (hP k st.sl), (k, some cs) :: st.bs⟩ := by
  obtain ⟨old, hold⟩ := hold
  refine ⟨D, β, hs.base.put hd _, ⟨fun j c hj => ?_, fun j1 j2 c1 c2 h1 h2 => ?_⟩, fun j c hj b' hb' => ?_, fun t => ?_⟩
  · rw [kX] at hj
    split at hj
    · rename_i e; subst e; injection hj with hj; subst hj; exact hk
    · exact hs.mem.ok j c hj
  · have g : ∀ j c, uJ ((k, some cs) :: st.bs) j = some c → ∃ c', uJ st.bs j = some c' := fun j c hj => by
      rw [kX] at hj
      split at hj
      · rename_i e; subst e; exact ⟨_, hold⟩
      · exact ⟨_, hj⟩
    obtain ⟨d1, g1⟩ := g j1 c1 h1
    obtain ⟨d2, g2⟩ := g j2 c2 h2
    exact hs.mem.inj j1 j2 d1 d2 g1 g2
  · rw [kX] at hj
    split at hj
    · rename_i e; subst e; exact hs.high k _ hold b' hb'
    · exact hs.high j c hj b' hb'
  · rw [xN hs.base.size hd, zB]
    split
    · exact hx
    · rw [eO]
      exact forget_slot fun _ => hs.slots t
end
theorem rep_sl_cells {w : World} {D : uT} {t : TypeId} {s : Nat} {es : List kY} {v : Value} (h : xF w D v (.sl t s es)) :
    ∃ (ao : Option Addr) (c : Nat) (us : List Value), v = .slice ao es.length c ∧ es.length ≤ c ∧ us.length = es.length * s ∧ (uR es).length = es.length * s ∧ (∀ u ∈ us, u.oneCell' = true) ∧ (∀ (i : Nat) u d, us[i]? = some u → (uR es)[i]? = some d → xF w D u d) ∧
      (0 < es.length → ∃ ad : Addr, ao = some ad ∧ ∀ (j : Nat) u, us[j]? = some u → w.cell? (ad.add j) = some u) := by
  cases h with
  | sl g off u hn hc hm hs ha hD hu h1 hr =>
    rename_i a nn cap
    have hfl := xK hs
    refine ⟨a, cap, (List.range (uR es).length).map u, by rw [hn], by omega, by simp [hfl], hfl, ?_, ?_, ?_⟩
    · intro x hx
      obtain ⟨i, hi, rfl⟩ := List.mem_map.1 hx
      exact h1 i (List.mem_range.1 hi)
    · intro i x d hx hd
      rw [List.getElem?_map, Option.map_eq_some_iff] at hx
      obtain ⟨j, hj, rfl⟩ := hx
      have hji : j = i := by
        rw [List.getElem?_range (heapless hd)] at hj
        injection hj with hj
        exact hj.symm
      subst hji
      exact hr j d hd
    · intro h0
      refine ⟨⟨g, off, none⟩, ha (by omega), fun j x hx => ?_⟩
      rw [List.getElem?_map, Option.map_eq_some_iff] at hx
      obtain ⟨i, hi, rfl⟩ := hx
      have hlt : i < (uR es).length := by
        have := List.mem_of_getElem? hi
        exact List.mem_range.1 this
      have hij : i = j := by
        have hj : j < (uR es).length := by
          have := (List.getElem?_eq_some_iff.1 hi).1
          simpa using this
        rw [List.getElem?_range hj] at hi
        injection hi with hi
        exact hi.symm
      subst hij
      rw [Addr.add_lit]
      exact hu i hlt
where
  heapless {es : List kY} {i : Nat} {d : kY} (h : (uR es)[i]? = some d) : i < (uR es).length := (List.getElem?_eq_some_iff.1 h).1
theorem app_blk {w : World} {D : uT} {β : vP} {b : Nat} {arr : List Value} {E : TypeId} {k : Nat} {es : List kY} (hkb : β k = some b) (hheap : w.heap[b]? = some (.cells arr.toArray E (0, 0))) (vR : (uR es).length ≤ arr.length)
    (h : ∀ (i : Nat) d, (uR es)[i]? = some d → ∃ u, arr[i]? = some u ∧ u.oneCell' = true ∧ xF w D u d) (hp : ∀ t o, ¬ D t b o) : yI w D β k ((uR es).map .d) := by
  refine .inr ⟨b, arr.toArray, E, hkb, hheap, by simpa using vR, fun i x hx => ?_, hp⟩
  rw [List.getElem?_map, Option.map_eq_some_iff] at hx
  obtain ⟨d, hd, rfl⟩ := hx
  obtain ⟨u, e1, e2, e3⟩ := h i d hd
  exact ⟨u, by simpa using e1, e2, e3⟩
section
variable {P : Program} {o : Oper} {st : PS}
theorem app_sound {T E t' : TypeId} {x y : Operand} {k s m bytes : Nat} {zv : List Value} {es es' : List kY} {cs : List SV} {N : Fr} (ho : o.op = .call { callee := .builtin .append, args := #[x, y], argTypes := #[T, T] })
    (hd : hN N o.dst = true) (hT : xO P T = some (E, s)) (hz : xC P E = some zv) (hzl : zv.length = s) (hby : nK P E = some bytes) (hx : ev (qB st.sl) x = .own k E s m) (hb : uJ st.bs k = some cs) (hcs : cs = (uR es).map .d)
    (hes : (uR es).length = m * s) (hy : ev (qB st.sl) y = .d (.sl t' s es')) (hbig : m + es'.length ≤ maxLen) (hbig' : (m + es'.length) * bytes ≤ 140737488355328) (hB : ∀ j c, j ≠ k → uJ st.bs j = some c → zQ k c = false)
    (C : Ctx) (a : Act) (w : World) (Q : Exit → Act → World → Prop) (hn : C.n = N) (hs : cS C a w st) :
    o.wp P a w (fun a' w' => cS C a' w' ⟨putS o.dst (.own k E s (m + es'.length)) (hP k st.sl), (k, some ((uR (es ++ es')).map .d)) :: st.bs⟩) Q := by
  obtain ⟨D, β, hs⟩ := hs
  subst hn
  subst hcs
  have hev : ∀ q : Operand, vG w D β (a.eval q) (ev (qB st.sl) q) := fun q => by
    cases q with
    | tmp t => exact hs.slots t
    | const v => exact xF.val v
    | func f => exact xF.val _
    | global g => trivial
  have h1 := hev x
  have h2 := hev y
  rw [hx] at h1
  rw [hy] at h2
  obtain ⟨ao, c, us, hyv, hcc, hul, hfl', hone, hrep, had⟩ := rep_sl_cells h2
  obtain ⟨i, z, z1, z2, z3⟩ := eM hz
  obtain ⟨j, f1, f2, f3⟩ := mI hT
  have hij : i = j := by rw [z1] at f2; injection f2
  subst hij
  have hbi : i.bytes = bytes := by
    unfold nK at hby
    rw [z1] at hby
    simpa using hby
  subst hbi
  have hzs : z.cells.size = s := by rw [z3]; simpa using hzl
  have hml : (maxLen : Int) ≤ 9223372036854775807 := by decide
  have hblk := hs.mem.ok k _ hb
  have hflat : uR (es ++ es') = uR es ++ uR es' := flat_append es es'
  have hfll : (uR (es ++ es')).length = (m + es'.length) * s := by rw [hflat, List.length_append, hes, hfl', Nat.add_mul]
  by_cases hm0 : es'.length = 0
  · have hnil : es' = [] := List.eq_nil_of_length_eq_zero hm0
    subst hnil
    have hrun : (Builtin.append_ #[T, T] o.type #[a.eval x, a.eval y]).run P w = .ok (a.eval x) w := by
      rw [hyv]
      have e0 : ([] : List kY).length = 0 := rfl
      have hu0 : us = [] := List.eq_nil_of_length_eq_zero (by simpa using hul)
      rcases h1 with ⟨_, _, hv⟩ | ⟨b, cap, vs, _, hv, hheap, _, hmc, _⟩
      · rw [hv, e0]
        cases ao with
        | none => simp [Builtin.append_, run_underlying f1, sizeOf, typeInfo, z1, Builtin.lenOf, Builtin.firstCells]
        | some ad => simp [Builtin.append_, run_underlying f1, sizeOf, typeInfo, z1, Builtin.lenOf, Builtin.firstCells, loadCells, loadCellsFrom]
      · rw [hv, e0]
        cases ao with
        | none => simp [Builtin.append_, run_underlying f1, sizeOf, typeInfo, z1, Builtin.lenOf, Builtin.firstCells, hmc, storeCells]
        | some ad => simp [Builtin.append_, run_underlying f1, sizeOf, typeInfo, z1, Builtin.lenOf, Builtin.firstCells, hmc, storeCells, loadCells, loadCellsFrom]
    have hx' : vG w D β (a.eval x) (.own k E s (m + ([] : List kY).length)) := h1
    have := grew_same (dst := o.dst) (cs := (uR (es ++ [])).map .d) (k := k) hs hd (by simpa using hblk) ⟨_, hb⟩ hx'
    unfold Oper.wp execOp
    simp only [ho, resolve, invoke, builtin, Sem.run_bind, Sem.run_pure, Result.andThen_ok, List.map_toArray, List.map_cons, List.map_nil, hrun]
    exact this
  · obtain ⟨ad, rfl, hcell⟩ := had (by omega)
    rcases h1 with ⟨hk0, hm, hv⟩ | ⟨b, cap, vs, hkb, hv, hheap, hvs, hmc, hcap⟩
    · subst hm
      have hbytes : es'.length * i.bytes ≤ 281474976710656 := by rw [Nat.zero_add] at hbig'; omega
      have hr := run_append_nil (P := P) w T o.type E i z f1 z1 z2 ad es'.length c us (by rw [hul, f3]) hcell (by omega) (by omega) hbytes
      have hes0 : uR es = [] := List.eq_nil_of_length_eq_zero (by simpa using hes)
      have hge := grownCap_ge w es'.length 0 E
      have hcm := grownCap_le_maxLen w es'.length 0 E (by omega)
      generalize grownCap w es'.length 0 E = G at hr hge hcm
      have cW : Below w.heap.size w (w.drew.alloc (.cells (us.toArray ++ Builtin.zeroCells z.cells (G - es'.length)) E)) := ⟨rfl, rfl, rfl, by simp, fun q hq => heap_alloc_old w.drew _ hq⟩
      have hblk' : yI (w.drew.alloc (.cells (us.toArray ++ Builtin.zeroCells z.cells (G - es'.length)) E)) D (β.set k w.heap.size) k ((uR (es ++ es')).map .d) := by
        have earr : us.toArray ++ Builtin.zeroCells z.cells (G - es'.length) = (us ++ (Builtin.zeroCells z.cells (G - es'.length)).toList).toArray := by apply Array.ext'; simp
        refine app_blk (b := w.heap.size) (E := E) (arr := us ++ (Builtin.zeroCells z.cells (G - es'.length)).toList) (by simp [vP.set]) (by rw [← earr]; exact heap_alloc_new w.drew _) (by rw [hfll, Nat.zero_add, List.length_append]; omega) ?_ (fun t q hq => Nat.lt_irrefl _ (hs.base.dok t _ q hq))
        intro q d hq
        rw [hflat, hes0, List.nil_append] at hq
        have hlt : q < us.length := by
          have := (List.getElem?_eq_some_iff.1 hq).1
          omega
        exact ⟨us[q], by rw [List.getElem?_append_left hlt]; simp [hlt], hone _ (by simp), (hrep q us[q] d (by simp [hlt]) hq).up cW (DUp.of_same D) hs.base.dok⟩
      have hx' : vG (w.drew.alloc (.cells (us.toArray ++ Builtin.zeroCells z.cells (G - es'.length)) E)) D (β.set k w.heap.size) (.slice (some ⟨w.heap.size, 0, none⟩) es'.length G) (.own k E s (0 + es'.length)) := by
        rw [Nat.zero_add]
        refine .inr ⟨w.heap.size, G, _, by simp [vP.set], rfl, heap_alloc_new w.drew _, ?_, hge, hcm⟩
        simp only [Array.size_append, List.size_toArray, size_zeroCells, hzs, hul, ← Nat.add_mul]
        congr 1
        omega
      have := grew_new (dst := o.dst) hs cW (Nat.le_refl _) hd hB hblk' hx'
      unfold Oper.wp execOp
      simp only [ho, resolve, invoke, builtin, Sem.run_bind, Sem.run_pure, Result.andThen_ok, List.map_toArray, List.map_cons, List.map_nil, hv, hyv, hr]
      exact this
    · have hb4 : ∃ b' vs' T', β k = some b' ∧ w.heap[b']? = some (.cells vs' T' (0, 0)) ∧ ((uR es).map SV.d).length ≤ vs'.size ∧ (∀ (i : Nat) x, ((uR es).map SV.d)[i]? = some x → ∃ u, vs'[i]? = some u ∧ u.oneCell' = true ∧ vG w D β u x) ∧ ∀ t o, ¬ D t b' o := by
        rcases hblk with ⟨e, _⟩ | h
        · rw [hkb] at e; cases e
        · exact h
      obtain ⟨b', vs', T', e1, e2, e3, e4, e5⟩ := hb4
      have : b' = b := by rw [hkb] at e1; injection e1 with e1; exact e1.symm
      subst this
      have : vs' = vs := by rw [hheap] at e2; injection e2 with e2; injection e2 with e2; exact e2.symm
      subst this
      have e4' : ∀ (q : Nat) d, (uR es)[q]? = some d → ∃ u, vs'[q]? = some u ∧ u.oneCell' = true ∧ xF w D u d := fun q d hq => e4 q (.d d) (by rw [List.getElem?_map, hq]; rfl)
      have hle : m * s ≤ vs'.size := by rw [hvs]; exact Nat.mul_le_mul_right _ hmc
      by_cases hroom : m + es'.length ≤ cap
      · have hfit : m * s + us.length ≤ vs'.size := by rw [hul, hvs, ← Nat.add_mul]; exact Nat.mul_le_mul_right _ hroom
        have hr := run_append_room (P := P) w T o.type E i f1 z1 b' m cap vs' hheap ad es'.length c us (by rw [hul, f3]) hcell hone hroom (by rw [f3]; exact hfit)
        rw [f3] at hr
        have hpl := nB (l := vs'.toList) (off := m * s) (new := us) (by simpa using hfit)
        have hw := wrote_setRow w b' (vs'.toList.take (m * s) ++ us ++ vs'.toList.drop (m * s + us.length)).toArray (fun vs2 T2 f2 h => by
          rw [hheap] at h
          injection h with h
          injection h with h
          subst h
          have e : patch vs'.toList (m * s) us = vs'.toList.take (m * s) ++ us ++ vs'.toList.drop (m * s + us.length) := rfl
          rw [e] at hpl
          simpa using hpl)
        have hheap' := setRow_heap w b' vs' (vs'.toList.take (m * s) ++ us ++ vs'.toList.drop (m * s + us.length)).toArray E _ hheap
        have hpg : ∀ q, (vs'.toList.take (m * s) ++ us ++ vs'.toList.drop (m * s + us.length))[q]? = if q < m * s then vs'.toList[q]? else if q < m * s + us.length then us[q - m * s]? else vs'.toList[q]? := fun q => mB (by simpa using hfit) q
        have hblk' : yI (w.setRow b' (vs'.toList.take (m * s) ++ us ++ vs'.toList.drop (m * s + us.length)).toArray) D β k ((uR (es ++ es')).map .d) := by
          refine app_blk hkb hheap' ?_ ?_ e5
          · have e : patch vs'.toList (m * s) us = vs'.toList.take (m * s) ++ us ++ vs'.toList.drop (m * s + us.length) := rfl
            rw [e] at hpl
            rw [hpl, hfll, Nat.add_mul]
            simp only [Array.length_toList]
            omega
          · intro q d hq
            rw [hpg q]
            rw [hflat] at hq
            by_cases c1 : q < m * s
            · rw [if_pos c1]
              rw [List.getElem?_append_left (by omega)] at hq
              obtain ⟨u, g1, g2, g3⟩ := e4' q d hq
              exact ⟨u, by simpa using g1, g2, hw.rep e5 g3⟩
            · rw [List.getElem?_append_right (by omega), hes] at hq
              have hlt : q - m * s < us.length := by
                have := (List.getElem?_eq_some_iff.1 hq).1
                omega
              rw [if_neg c1, if_pos (by omega)]
              exact ⟨us[q - m * s], by simp [hlt], hone _ (by simp), hw.rep e5 (hrep _ _ d (by simp [hlt]) hq)⟩
        have hx' : vG (w.setRow b' (vs'.toList.take (m * s) ++ us ++ vs'.toList.drop (m * s + us.length)).toArray) D β (.slice (some ⟨b', 0, none⟩) (m + es'.length) cap) (.own k E s (m + es'.length)) := by
          refine .inr ⟨b', cap, _, hkb, rfl, hheap', ?_, hroom, hcap⟩
          have e : patch vs'.toList (m * s) us = vs'.toList.take (m * s) ++ us ++ vs'.toList.drop (m * s + us.length) := rfl
          rw [e] at hpl
          simpa [hvs] using hpl
        have := grew_room (dst := o.dst) hs hw hkb e5 hb hd hblk' hx'
        unfold Oper.wp execOp
        simp only [ho, resolve, invoke, builtin, Sem.run_bind, Sem.run_pure, Result.andThen_ok, List.map_toArray, List.map_cons, List.map_nil, hv, hyv, hr]
        exact this
      · have hol : (vs'.toList.take (m * s)).length = m * i.size := by rw [f3, List.length_take]; simp; omega
        have holds : ∀ q u, (vs'.toList.take (m * s))[q]? = some u → w.cell? ((⟨b', 0, none⟩ : Addr).add q) = some u := fun q u hq => by
          rw [Addr.add_lit, Nat.zero_add, cell_of_row w b' q vs' E (0, 0) hheap]
          rw [List.getElem?_take] at hq
          split at hq
          · simpa using hq
          · cases hq
        have hr := run_append_grow (P := P) w T o.type E i z f1 z1 z2 ⟨b', 0, none⟩ m cap (vs'.toList.take (m * s)) hol holds ad es'.length c us (by rw [hul, f3]) hcell (by omega) (by omega) (growslice_fits (by omega) hbig')
        have hge := grownCap_ge w (m + es'.length) cap E
        have hcm := grownCap_le_maxLen w (m + es'.length) cap E (by omega)
        generalize grownCap w (m + es'.length) cap E = G at hr hge hcm
        have cW : Below w.heap.size w (w.drew.alloc (.cells ((vs'.toList.take (m * s)).toArray ++ us.toArray ++ Builtin.zeroCells z.cells (G - (m + es'.length))) E)) := ⟨rfl, rfl, rfl, by simp, fun q hq => heap_alloc_old w.drew _ hq⟩
        have hblk' : yI (w.drew.alloc (.cells ((vs'.toList.take (m * s)).toArray ++ us.toArray ++ Builtin.zeroCells z.cells (G - (m + es'.length))) E)) D (β.set k w.heap.size) k ((uR (es ++ es')).map .d) := by
          have earr : (vs'.toList.take (m * s)).toArray ++ us.toArray ++ Builtin.zeroCells z.cells (G - (m + es'.length)) = (vs'.toList.take (m * s) ++ us ++ (Builtin.zeroCells z.cells (G - (m + es'.length))).toList).toArray := by apply Array.ext'; simp
          rw [f3] at hol
          refine app_blk (b := w.heap.size) (E := E) (by simp [vP.set]) (by rw [← earr]; exact heap_alloc_new w.drew _) (by rw [hfll, List.length_append, List.length_append, hol, Nat.add_mul]; omega) ?_ (fun t q hq => Nat.lt_irrefl _ (hs.base.dok t _ q hq))
          intro q d hq
          rw [hflat] at hq
          by_cases c1 : q < m * s
          · rw [List.getElem?_append_left (by omega)] at hq
            obtain ⟨u, g1, g2, g3⟩ := e4' q d hq
            refine ⟨u, ?_, g2, g3.up cW (DUp.of_same D) hs.base.dok⟩
            rw [List.append_assoc, List.getElem?_append_left (by omega), List.getElem?_take, if_pos c1]
            simpa using g1
          · rw [List.getElem?_append_right (by omega), hes] at hq
            have hlt : q - m * s < us.length := by
              have := (List.getElem?_eq_some_iff.1 hq).1
              omega
            refine ⟨us[q - m * s], ?_, hone _ (by simp), (hrep _ _ d (by simp [hlt]) hq).up cW (DUp.of_same D) hs.base.dok⟩
            rw [List.append_assoc, List.getElem?_append_right (by omega), hol, List.getElem?_append_left hlt]
            simp [hlt]
        have hx' : vG (w.drew.alloc (.cells ((vs'.toList.take (m * s)).toArray ++ us.toArray ++ Builtin.zeroCells z.cells (G - (m + es'.length))) E)) D (β.set k w.heap.size) (.slice (some ⟨w.heap.size, 0, none⟩) (m + es'.length) G) (.own k E s (m + es'.length)) := by
          refine .inr ⟨w.heap.size, G, _, by simp [vP.set], rfl, heap_alloc_new w.drew _, ?_, hge, hcm⟩
          rw [f3] at hol
          simp only [Array.size_append, List.size_toArray, size_zeroCells, hzs, hul, hol, ← Nat.add_mul]
          congr 1
          omega
        have := grew_new (dst := o.dst) hs cW (Nat.le_refl _) hd hB hblk' hx'
        unfold Oper.wp execOp
        simp only [ho, resolve, invoke, builtin, Sem.run_bind, Sem.run_pure, Result.andThen_ok, List.map_toArray, List.map_cons, List.map_nil, hv, hyv, hr]
        exact this
end
def Clr (k : Nat) (bs : BS) : Prop := ∀ j c, j ≠ k → uJ bs j = some c → zQ k c = false
theorem dP {α : Type} (k : Nat) (f : α → kY) (l : List α) : zQ k (l.map (fun g => SV.d (f g))) = false := by
  simp only [zQ, List.any_eq_false]
  intro x hx
  obtain ⟨g, _, rfl⟩ := List.mem_map.1 hx
  simp [SV.names]
theorem clr_nil (k : Nat) : Clr k [] := fun j c _ h => by simp [uJ] at h
theorem clr_self {k : Nat} {x : Option (List SV)} {bs : BS} (h : Clr k bs) : Clr k ((k, x) :: bs) := fun j c hj hb => by
  rw [kX, if_neg (fun e => hj e.symm)] at hb
  exact h j c hj hb
theorem clr_cons {k j : Nat} {cs : List SV} {bs : BS} (hc : zQ k cs = false) (h : Clr k bs) : Clr k ((j, some cs) :: bs) := fun i c hi hb => by
  rw [kX] at hb
  split at hb
  · injection hb with hb; subst hb; exact hc
  · exact h i c hi hb
theorem clr_map {α : Type} {k j : Nat} {f : α → kY} {l : List α} {bs : BS} (h : Clr k bs) : Clr k ((j, some (l.map (fun g => SV.d (f g)))) :: bs) := clr_cons (dP k f l) h
theorem clr_d {k j : Nat} {l : List kY} {bs : BS} (h : Clr k bs) : Clr k ((j, some (l.map SV.d)) :: bs) := clr_cons (dP k id l) h
theorem clr_bx {k j : Nat} {d : kY} {bs : BS} (h : Clr k bs) : Clr k ((j, some (bx d)) :: bs) := clr_d h
section
variable {P : Program} {n : Fr} {ops : Array Oper} {S S' : SL} {B B' : BS} {l : List Oper} {o : Oper}
theorem nilOwn_sem {d : Tmp} (k : Nat) (E s : Nat) (ho : o.op = .assign (.const (.slice none 0 0)) ∨ o.op = .move (.const (.slice none 0 0))) (hdst : o.dst = some d) (hd : hN n (some d) = true) (hf : gQ k ⟨S, B⟩ = true)
    (C : Ctx) (a : Act) (w : World) (Q : Exit → Act → World → Prop) (hn : C.n = n) (hs : cS C a w ⟨S, B⟩) : o.wp P a w (fun a' w' => cS C a' w' ⟨(d, .own k E s 0) :: S, (k, some []) :: B⟩) Q := by
  subst hn
  obtain ⟨D, β, hs⟩ := hs
  have hrun : (execOp a.eval o).run P w = .ok (.value (.slice none 0 0)) w := by
    rcases ho with ho | ho
    · simp only [execOp, ho, Sem.run_pure]; rfl
    · simp only [execOp, ho, Sem.run_pure]; rfl
  refine cT hrun ?_
  rw [hdst]
  have hβ : ∀ j, j ≠ k → (fun j => if j = k then none else β j : vP) j = β j := fun j hj => by simp [hj]
  refine ⟨D, fun j => if j = k then none else β j, hs.base.put hd _, ⟨fun j c hj => ?_, fun j1 j2 c1 c2 h1 h2 b e1 e2 => ?_⟩, fun j c hj b hb => ?_, fun t => ?_⟩
  · rw [kX] at hj
    split at hj
    · rename_i e; subst e; injection hj with hj; subst hj
      exact .inl ⟨by simp, rfl⟩
    · obtain ⟨h1, h2⟩ := fresh_blk hf hj
      exact (hs.mem.ok j c hj).frame hβ h1 h2
  · have n1 : j1 ≠ k := fun e => by subst e; simp at e1
    have n2 : j2 ≠ k := fun e => by subst e; simp at e2
    simp only [if_neg n1] at e1
    simp only [if_neg n2] at e2
    rw [kX, if_neg (fun e => n1 e.symm)] at h1
    rw [kX, if_neg (fun e => n2 e.symm)] at h2
    exact hs.mem.inj j1 j2 c1 c2 h1 h2 b e1 e2
  · have nj : j ≠ k := fun e => by subst e; simp at hb
    simp only [if_neg nj] at hb
    rw [kX, if_neg (fun e => nj e.symm)] at hj
    exact hs.high j c hj b hb
  · show vG w D _ ((a.put (some d) (.slice none 0 0)).tmps.getD t undef) (qB ((d, .own k E s 0) :: S) t)
    rw [xN hs.base.size hd, vS]
    by_cases e : d = t
    · rw [if_pos e, if_pos (by rw [e])]
      exact .inl ⟨by simp, rfl, rfl⟩
    · rw [if_neg e, if_neg (fun e' => e (by injection e'))]
      exact (hs.slots t).frame hβ (fresh_slot hf t)
end
section
variable {P : Program} {o : Oper} {S : Nat → SV}
theorem n_bso {T E : TypeId} {s len : Nat} {ps : List (Nat × Operand)} {pd : List (Nat × kY)} {zv : List Value} {zd es : List kY} {cs : List SV} (k : Nat) (ho : o.op = .buildSlice T len ps.toArray) (hT : xO P T = some (E, s)) (hz : xC P E = some zv) (hzd : nV zv zd) (hzl : zd.length = s)
    (hps : ps.map (fun p => (p.1, ev S p.2)) = pd.map (fun p => (p.1, .d p.2))) (hok : pd.all (fun p => p.2.ok1) = true) (hbig : Nat.ble (len * s) 16777216 = true) (hbig' : Nat.ble len 16777216 = true) (vR : es.length = len) (hs : es.map (fun e => e.cells.length) = List.replicate len s)
    (hr : dE (fun i => some (i * s, s)) (List.replicate len zd).flatten (pd.map fun p => (p.1, p.2.cells)) = some (uR es)) (hcs : (uR es).map .d = cs) : NOk P o S k cs (.own k E s len) :=
  fun a w D β Q hop hD => by
    subst hcs
    have hbig := Nat.le_of_ble_eq_true hbig
    have hbig' := Nat.le_of_ble_eq_true hbig'
    have hs : ∀ e ∈ es, e.cells.length = s := fun e he => by
      have : e.cells.length ∈ es.map (fun e => e.cells.length) := List.mem_map_of_mem he
      rw [hs] at this
      exact (List.mem_replicate.1 this).2
    obtain ⟨i, z, z1, z2, z3⟩ := eM hz
    obtain ⟨j, e1, e2, e3⟩ := mI hT
    have hij : i = j := by rw [z1] at e2; injection e2
    subst hij
    obtain ⟨q1, q2⟩ := eR (a := a) (w := w) (D := D) (β := β) hps hok (fun p hp => hop p.2 (by
      simp only [ho, Op.operands]
      exact List.mem_toArray.2 (by simpa using List.mem_map_of_mem (f := (·.2)) hp)))
    have hzvl : zv.length = zd.length := (fT (w := w) (D := D) hzd).1
    have hzs : z.cells.size = s := by rw [z3]; simp; omega
    have hrz := cE z.cells s len hzs
    have hzero : RepL w D ((Array.range (len * s)).map (z.cells[· % z.cells.size]!)).toList (List.replicate len zd).flatten := by
      rw [hrz, z3]
      exact repL_zeros hzd len
    obtain ⟨cs', f1, f2⟩ := fV (fun i => some (i * s, s)) _ _ _ _ _ q1 q2 hzero hr
    have hpp : (ps.toArray.map fun p => (p.1, a.eval p.2)).toList = ps.map fun p => (p.1, a.eval p.2) := by simp
    have hrun : (execOp a.eval o).run P w = .ok (.value (.slice (some ⟨w.heap.size, 0, none⟩) len len)) (w.alloc (.cells cs' E)) := by
      by_cases h0 : len * s = 0
      · rw [h0] at f1
        simp only [Array.range_zero', Array.map_empty] at f1
        simp only [execOp, ho, Instr.buildSlice, Sem.run_bind, run_underlying e1, Result.andThen_ok, xI e2, e3, h0, if_true, Array.range_zero', Array.map_empty, hpp, Sem.run_pure]
        rw [if_neg (by omega)]
        simp only [Sem.run_bind, Sem.run_pure, Result.andThen_ok, f1, newRow, run_newObj]
        rfl
      · simp only [execOp, ho, Instr.buildSlice, Sem.run_bind, run_underlying e1, Result.andThen_ok, xI e2, e3, h0, if_false, hpp]
        rw [if_neg (by omega)]
        simp only [Sem.run_bind, Sem.run_pure, Result.andThen_ok, run_zero z1 z2, f1, newRow, run_newObj]
        rfl
    refine npost_new (vs := cs') (T := E) hD f2 hrun ?_
    refine .inr ⟨w.heap.size, len, cs', by simp [vP.set], rfl, heap_alloc_new w _, ?_, Nat.le_refl _, by unfold maxLen; omega⟩
    have h1 := f2.1
    rw [xK hs, vR] at h1
    simpa using h1
end
end Go.Fid
