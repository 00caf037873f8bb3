/- Part 4 of a proof: rules, plain facts, and functions walked. -/
import Derived.Test.YtbecgnplakngdaaGreatM3
namespace Go.Fid
open Go.RowKit (Below)
def clear1 (news : List Nat) (x : SV) : Bool := news.all fun k => !(x.names k)
def clearL (news : List Nat) (cs : List SV) : Bool := news.all fun k => !(yG k cs)
def tmpOf : Operand → List Tmp
  | .tmp t => [t]
  | _ => []
def fD (ops : Array Oper) (o : Oper) : List Tmp :=
  (o.op.operands.toList.flatMap tmpOf) ++ match o.guard with
    | some (j, _) => ((ops[j]?).bind (·.dst)).toList
    | none => []
def clearR (ops : Array Oper) (S : SL) (o : Oper) (news : List Nat) (x : SV) : Bool := news.all fun k => !(x.names k) || (fD ops o).any fun d => (qN S d).names k
inductive dB (P : Program) (n : Fr) (ops : Array Oper) (news : List Nat) (st : PS) (o : Oper) : List Nat → List Nat → List Nat → PS → Prop
  | e {rd : List (Nat × List SV)} {x : SV} (h : vI P o (qN st.sl) rd x) (hg : yR ops st.sl o = some true) (hd : nN n o.dst = true) (hrd : ∀ p ∈ rd, uQ st.bs p.1 = some p.2) (hn : clearR ops st.sl o news x = true) :
      dB P n ops news st o news (rd.map (·.1)) [] ⟨putS o.dst x st.sl, st.bs⟩
  | n {k : Nat} {cs : List SV} {x : SV} (h : NOk P o (qN st.sl) k cs x) (hg : yR ops st.sl o = some true) (hd : nN n o.dst = true) (hf : hZ k st = true) (hn : clear1 news x = true) (hc : clearL news cs = true) :
      dB P n ops news st o (k :: news) [] [k] ⟨putS o.dst x st.sl, (k, some cs) :: st.bs⟩
  | t {k : Nat} {old cs : List SV} (h : TOk P o (qN st.sl) k old cs) (hg : yR ops st.sl o = some true) (hd : nN n o.dst = true) (hb : uQ st.bs k = some old) (hc : clearL news cs = true) :
      dB P n ops news st o news [k] [k] ⟨putS o.dst .junk st.sl, (k, some cs) :: st.bs⟩
  | skip (hg : yR ops st.sl o = some false) (hd : nN n o.dst = true) : dB P n ops news st o news [] [] ⟨putS o.dst (.d (.tup [])) st.sl, st.bs⟩
inductive DSteps (P : Program) (n : Fr) (ops : Array Oper) : List Nat → PS → List Oper → List (List Nat × List Nat) → PS → Prop
  | nil {news : List Nat} {st : PS} : DSteps P n ops news st [] [] st
  | cons {news aX r w : List Nat} {st st1 st2 : PS} {o : Oper} {l : List Oper} {acc : List (List Nat × List Nat)} (h : dB P n ops news st o aX r w st1) (hr : DSteps P n ops aX st1 l acc st2) : DSteps P n ops news st (o :: l) ((r, w) :: acc) st2
def directB (ops : Array Oper) (j i : Nat) : Bool := match ops[j]? with
  | some o => o.after.any fun e => Region.binds .any e && Nat.beq e.on i
  | none => false
def ancB (ops : Array Oper) : Nat → Nat → Nat → Bool
  | 0, _, _ => false
  | f + 1, j, i => directB ops j i || match ops[j]? with
    | some o => o.after.any fun e => Region.binds .any e && ancB ops f e.on i
    | none => false
def memB (l : List Nat) (k : Nat) : Bool := l.any (Nat.beq k)
def dstIn (o : Oper) (l : List Tmp) : Bool := match o.dst with
  | some d => memB l d
  | none => false
def meetB (a b : List Nat) : Bool := a.any (memB b)
def needB (ops : Array Oper) (acc : List (List Nat × List Nat)) (i j : Nat) : Bool :=
  match ops[i]?, ops[j]?, acc[i]?, acc[j]? with
  | some oi, some oj, some (ri, wi), some (rj, wj) => dstIn oi (fD ops oj) || dstIn oj (fD ops oi) || dstIn oi oj.dst.toList || meetB wi rj || meetB wi wj || meetB wj ri
  | _, _, _, _ => true
def allPairs (m : Nat) (p : Nat → Nat → Bool) : Bool := (List.range m).all fun j => (List.range j).all fun i => p i j
def orderB (ops : Array Oper) (acc : List (List Nat × List Nat)) : Bool :=
  Nat.beq acc.length ops.size && allPairs ops.size fun i j => !(needB ops acc i j) || ancB ops ops.size j i
theorem memB_iff {l : List Nat} {k : Nat} : memB l k = true ↔ k ∈ l := by
  simp only [memB, List.any_eq_true]
  constructor
  · rintro ⟨x, hx, h⟩
    have := Nat.eq_of_beq_eq_true h
    subst this; exact hx
  · intro h; exact ⟨k, h, by simp⟩
theorem meetB_of {a b : List Nat} {k : Nat} (h1 : k ∈ a) (h2 : k ∈ b) : meetB a b = true := by
  simp only [meetB, List.any_eq_true]
  exact ⟨k, h1, memB_iff.2 h2⟩
section
variable {P : Program} {n : Fr} {ops : Array Oper}
structure Line (P : Program) (n : Fr) (ops : Array Oper) (f : Nat → PS) (g r w : Nat → List Nat) : Prop where
  step : ∀ (i : Nat) o, ops[i]? = some o → dB P n ops (g i) (f i) o (g (i + 1)) (r i) (w i) (f (i + 1))
theorem line_of : ∀ {l : List Oper} {news : List Nat} {st st' : PS} {acc : List (List Nat × List Nat)}, DSteps P n ops news st l acc st' →
    ∃ (f : Nat → PS) (g : Nat → List Nat), f 0 = st ∧ f l.length = st' ∧ g 0 = news ∧ acc.length = l.length ∧ ∀ (i : Nat) o, l[i]? = some o → ∃ r w, acc[i]? = some (r, w) ∧ dB P n ops (g i) (f i) o (g (i + 1)) r w (f (i + 1)) := by
  intro l
  induction l with
  | nil =>
    intro news st st' acc h
    cases h
    exact ⟨fun _ => st, fun _ => news, rfl, rfl, rfl, rfl, by simp⟩
  | cons o l ih =>
    intro news st st' acc h
    cases h with
    | cons h hr =>
      rename_i aX r w st1 acc
      obtain ⟨f, g, h1, h2, h3, h4, h5⟩ := ih hr
      refine ⟨fun i => match i with | 0 => st | i + 1 => f i, fun i => match i with | 0 => news | i + 1 => g i, rfl, h2, rfl, by simp [h4], fun i o' ho => ?_⟩
      cases i with
      | zero =>
        simp at ho
        subst ho
        exact ⟨r, w, rfl, by simpa [h1, h3] using h⟩
      | succ i => exact h5 i o' (by simpa using ho)
end
def L (listed : Array Bool) (i : Nat) : Prop := listed.getD i false = true
def Closed (ops : Array Oper) (listed : Array Bool) : Prop := ∀ (j : Nat) o, ops[j]? = some o → L listed j → ∀ e ∈ o.after, Region.binds .any e = true → L listed e.on
theorem direct_listed {ops : Array Oper} {listed : Array Bool} {j i : Nat} (hd : directB ops j i = true) (hc : ∀ o, ops[j]? = some o → ∀ e ∈ o.after, Region.binds .any e = true → L listed e.on) : L listed i := by
  unfold directB at hd
  split at hd
  · rename_i o ho
    rw [← Array.any_toList, List.any_eq_true] at hd
    obtain ⟨e, he, h⟩ := hd
    simp only [Bool.and_eq_true] at h
    have := Nat.eq_of_beq_eq_true h.2
    subst this
    exact hc o ho e (Array.mem_toList_iff.1 he) h.1
  · cases hd
theorem iM {ops : Array Oper} {listed : Array Bool} (hcl : Closed ops listed) : ∀ (f j i : Nat), ancB ops f j i = true → (∀ o, ops[j]? = some o → ∀ e ∈ o.after, Region.binds .any e = true → L listed e.on) → L listed i
  | 0, j, i, h, _ => by simp [ancB] at h
  | f + 1, j, i, h, hc => by
    simp only [ancB, Bool.or_eq_true] at h
    rcases h with h | h
    · exact direct_listed h hc
    · split at h
      · rename_i o ho
        rw [← Array.any_toList, List.any_eq_true] at h
        obtain ⟨e, he, h⟩ := h
        simp only [Bool.and_eq_true] at h
        have hl := hc o ho e (Array.mem_toList_iff.1 he) h.1
        exact iM hcl f e.on i h.2 fun o' ho' => hcl e.on o' ho' hl
      · cases h
def mO (ops : Array Oper) (i : Nat) : Option Tmp := (ops[i]?).bind (·.dst)
def CurS (ops : Array Oper) (f : Nat → PS) (A : Nat → Prop) (t : Tmp) (x : SV) : Prop :=
  (∃ i, i < ops.size ∧ A i ∧ mO ops i = some t ∧ (∀ j, i < j → j < ops.size → A j → mO ops j ≠ some t) ∧ x = qN (f (i + 1)).sl t) ∨
  ((∀ i, i < ops.size → A i → mO ops i ≠ some t) ∧ x = qN (f 0).sl t)
def bB (ops : Array Oper) (f : Nat → PS) (w : Nat → List Nat) (A : Nat → Prop) (k : Nat) (c : Option (List SV)) : Prop :=
  (∃ i, i < ops.size ∧ A i ∧ k ∈ w i ∧ (∀ j, i < j → j < ops.size → A j → k ∉ w j) ∧ c = uQ (f (i + 1)).bs k) ∨
  ((∀ i, i < ops.size → A i → k ∉ w i) ∧ c = uQ (f 0).bs k)
section
variable {P : Program} {n : Fr} {ops : Array Oper} {f : Nat → PS} {g r w : Nat → List Nat}
theorem dstep_slot {news aX rr ww : List Nat} {st st' : PS} {o : Oper} (h : dB P n ops news st o aX rr ww st') {t : Tmp} (ht : o.dst ≠ some t) : qN st'.sl t = qN st.sl t := by
  cases h <;> simp only [zY, ht, if_false]
theorem dstep_blk {news aX rr ww : List Nat} {st st' : PS} {o : Oper} (h : dB P n ops news st o aX rr ww st') {k : Nat} (hk : k ∉ ww) : uQ st'.bs k = uQ st.bs k := by
  cases h with
  | e => rfl
  | n => simp at hk; simp only [qG]; rw [if_neg (fun e => hk e.symm)]
  | t => simp at hk; simp only [qG]; rw [if_neg (fun e => hk e.symm)]
  | skip => rfl
theorem curS_text (hf : Line P n ops f g r w) (A : Nat → Prop) (t : Tmp) : ∀ i, i ≤ ops.size → (∀ j, j < i → mO ops j = some t → A j) → (∀ j, i ≤ j → j < ops.size → A j → mO ops j ≠ some t) → CurS ops f A t (qN (f i).sl t)
  | 0, _, _, h2 => .inr ⟨fun i hi ha => h2 i (Nat.zero_le _) hi ha, rfl⟩
  | i + 1, hi, h1, h2 => by
    have hlt : i < ops.size := by omega
    have ho : ops[i]? = some ops[i] := Array.getElem?_eq_getElem hlt
    by_cases hd : mO ops i = some t
    · exact .inl ⟨i, hlt, h1 i (by omega) hd, hd, fun j hj hj2 ha => h2 j (by omega) hj2 ha, rfl⟩
    · have hst := hf.step i _ ho
      have hdo : (ops[i]).dst ≠ some t := fun e => hd (by simp [mO, ho, e])
      rw [dstep_slot hst hdo]
      refine curS_text hf A t i (by omega) (fun j hj => h1 j (by omega)) (fun j hj hj2 ha => ?_)
      rcases Nat.lt_or_ge i j with h | h
      · exact h2 j (by omega) hj2 ha
      · obtain rfl : j = i := by omega
        exact hd
theorem curB_text (hf : Line P n ops f g r w) (A : Nat → Prop) (k : Nat) : ∀ i, i ≤ ops.size → (∀ j, j < i → k ∈ w j → A j) → (∀ j, i ≤ j → j < ops.size → A j → k ∉ w j) → bB ops f w A k (uQ (f i).bs k)
  | 0, _, _, h2 => .inr ⟨fun i hi ha => h2 i (Nat.zero_le _) hi ha, rfl⟩
  | i + 1, hi, h1, h2 => by
    have hlt : i < ops.size := by omega
    have ho : ops[i]? = some ops[i] := Array.getElem?_eq_getElem hlt
    by_cases hd : k ∈ w i
    · exact .inl ⟨i, hlt, h1 i (by omega) hd, hd, fun j hj hj2 ha => h2 j (by omega) hj2 ha, rfl⟩
    · have hst := hf.step i _ ho
      rw [dstep_blk hst hd]
      refine curB_text hf A k i (by omega) (fun j hj => h1 j (by omega)) (fun j hj hj2 ha => ?_)
      rcases Nat.lt_or_ge i j with h | h
      · exact h2 j (by omega) hj2 ha
      · obtain rfl : j = i := by omega
        exact hd
theorem curS_old {A A' : Nat → Prop} {i : Nat} (hA : ∀ j, A' j ↔ (A j ∨ j = i)) {t : Tmp} {x : SV} (ht : mO ops i ≠ some t) (h : CurS ops f A' t x) : CurS ops f A t x := by
  rcases h with ⟨j, h1, h2, h3, h4, h5⟩ | ⟨h1, h2⟩
  · refine .inl ⟨j, h1, ?_, h3, fun j' a b c => h4 j' a b ((hA j').2 (.inl c)), h5⟩
    rcases (hA j).1 h2 with h | h
    · exact h
    · subst h; exact absurd h3 ht
  · exact .inr ⟨fun j a b => h1 j a ((hA j).2 (.inl b)), h2⟩
theorem curS_new {A A' : Nat → Prop} {i : Nat} (hi : i < ops.size) (hA : ∀ j, A' j ↔ (A j ∨ j = i)) {t : Tmp} {x : SV} (ht : mO ops i = some t) (hlate : ∀ j, i < j → j < ops.size → A j → mO ops j ≠ some t) (h : CurS ops f A' t x) : x = qN (f (i + 1)).sl t := by
  rcases h with ⟨j, h1, h2, h3, h4, h5⟩ | ⟨h1, h2⟩
  · rcases Nat.lt_trichotomy j i with h | h | h
    · exact absurd ht (h4 i h hi ((hA i).2 (.inr rfl)))
    · subst h; exact h5
    · rcases (hA j).1 h2 with h' | h'
      · exact absurd h3 (hlate j h h1 h')
      · omega
  · exact absurd ht (h1 i hi ((hA i).2 (.inr rfl)))
theorem curB_old {A A' : Nat → Prop} {i : Nat} (hA : ∀ j, A' j ↔ (A j ∨ j = i)) {k : Nat} {c : Option (List SV)} (ht : k ∉ w i) (h : bB ops f w A' k c) : bB ops f w A k c := by
  rcases h with ⟨j, h1, h2, h3, h4, h5⟩ | ⟨h1, h2⟩
  · refine .inl ⟨j, h1, ?_, h3, fun j' a b c => h4 j' a b ((hA j').2 (.inl c)), h5⟩
    rcases (hA j).1 h2 with h | h
    · exact h
    · subst h; exact absurd h3 ht
  · exact .inr ⟨fun j a b => h1 j a ((hA j).2 (.inl b)), h2⟩
theorem curB_new {A A' : Nat → Prop} {i : Nat} (hi : i < ops.size) (hA : ∀ j, A' j ↔ (A j ∨ j = i)) {k : Nat} {c : Option (List SV)} (ht : k ∈ w i) (hlate : ∀ j, i < j → j < ops.size → A j → k ∉ w j) (h : bB ops f w A' k c) : c = uQ (f (i + 1)).bs k := by
  rcases h with ⟨j, h1, h2, h3, h4, h5⟩ | ⟨h1, h2⟩
  · rcases Nat.lt_trichotomy j i with h | h | h
    · exact absurd ht (h4 i h hi ((hA i).2 (.inr rfl)))
    · subst h; exact h5
    · rcases (hA j).1 h2 with h' | h'
      · exact absurd h3 (hlate j h h1 h')
      · omega
  · exact absurd ht (h1 i hi ((hA i).2 (.inr rfl)))
theorem dstep_news {news aX rr ww : List Nat} {st st' : PS} {o : Oper} (h : dB P n ops news st o aX rr ww st') : ∀ k ∈ news, k ∈ aX := by
  intro k hk
  cases h with
  | e => exact hk
  | n => exact List.mem_cons_of_mem _ hk
  | t => exact hk
  | skip => exact hk
theorem curS_from {A : Nat → Prop} {t : Tmp} {x : SV} (h : CurS ops f A t x) : x = qN (f 0).sl t ∨ ∃ i, i < ops.size ∧ A i ∧ mO ops i = some t ∧ x = qN (f (i + 1)).sl t := by
  rcases h with ⟨i, h1, h2, h3, _, h5⟩ | ⟨_, h2⟩
  · exact .inr ⟨i, h1, h2, h3, h5⟩
  · exact .inl h2
theorem news_mono (hf : Line P n ops f g r w) : ∀ {i j : Nat}, i ≤ j → j ≤ ops.size → ∀ k ∈ g i, k ∈ g j := by
  intro i j hij
  induction j with
  | zero => intro _ k hk; obtain rfl : i = 0 := (by omega); exact hk
  | succ j ih =>
    intro hj k hk
    rcases Nat.lt_or_ge i (j + 1) with h | h
    · have h1 := ih (by omega) (by omega) k hk
      exact dstep_news (hf.step j _ (Array.getElem?_eq_getElem (show j < ops.size by omega))) k h1
    · obtain rfl : i = j + 1 := (by omega)
      exact hk
theorem sl_suffix (hf : Line P n ops f g r w) {j : Nat} : ∀ {i : Nat}, j ≤ i → i ≤ ops.size → ∃ l, (f i).sl = l ++ (f j).sl := by
  intro i
  induction i with
  | zero => intro h _; obtain rfl : j = 0 := (by omega); exact ⟨[], rfl⟩
  | succ i ih =>
    intro hj hi
    rcases Nat.lt_or_ge j (i + 1) with h | h
    · obtain ⟨l, hl⟩ := ih (by omega) (by omega)
      have hp : ∀ (dst : Option Tmp) (x : SV), ∃ l', putS dst x (f i).sl = l' ++ (f j).sl := fun dst x => by
        cases dst with
        | none => exact ⟨l, hl⟩
        | some d => exact ⟨(d, x) :: l, by simp [putS, hl]⟩
      have hst := hf.step i _ (Array.getElem?_eq_getElem (show i < ops.size by omega))
      generalize f (i + 1) = st' at hst ⊢
      generalize r i = rr at hst
      generalize w i = ww at hst
      generalize g (i + 1) = gg at hst
      cases hst <;> exact hp _ _
    · obtain rfl : j = i + 1 := (by omega)
      exact ⟨[], rfl⟩
theorem bs_suffix (hf : Line P n ops f g r w) {j : Nat} : ∀ {i : Nat}, j ≤ i → i ≤ ops.size → ∃ l, (f i).bs = l ++ (f j).bs := by
  intro i
  induction i with
  | zero => intro h _; obtain rfl : j = 0 := (by omega); exact ⟨[], rfl⟩
  | succ i ih =>
    intro hj hi
    rcases Nat.lt_or_ge j (i + 1) with h | h
    · obtain ⟨l, hl⟩ := ih (by omega) (by omega)
      have hst := hf.step i _ (Array.getElem?_eq_getElem (show i < ops.size by omega))
      generalize f (i + 1) = st' at hst ⊢
      generalize r i = rr at hst
      generalize w i = ww at hst
      generalize g (i + 1) = gg at hst
      cases hst with
      | e => exact ⟨l, hl⟩
      | n => rename_i k cs x _ _ _ _ _ _; exact ⟨(k, some cs) :: l, by simp [hl]⟩
      | t => rename_i k old cs _ _ _ _ _; exact ⟨(k, some cs) :: l, by simp [hl]⟩
      | skip => exact ⟨l, hl⟩
    · obtain rfl : j = i + 1 := (by omega)
      exact ⟨[], rfl⟩
theorem fresh_sl {k : Nat} {st : PS} (h : hZ k st = true) {l r : SL} (hl : st.sl = l ++ r) (t : Tmp) : (qN r t).names k = false := by
  have h' : hZ k ⟨r, []⟩ = true := by
    simp only [hZ, Bool.and_eq_true, List.all_eq_true, List.all_nil, and_true] at h ⊢
    exact fun p hp => h.1 p (by rw [hl]; exact List.mem_append_right _ hp)
  exact fresh_slot h' t
theorem fresh_bs {k : Nat} {st : PS} (h : hZ k st = true) {l r : BS} (hl : st.bs = l ++ r) {j : Nat} {c : List SV} (hj : uQ r j = some c) : j ≠ k ∧ yG k c = false := by
  have h' : hZ k ⟨[], r⟩ = true := by
    simp only [hZ, Bool.and_eq_true, List.all_eq_true, List.all_nil, true_and] at h ⊢
    exact fun p hp => h.2 p (by rw [hl]; exact List.mem_append_right _ hp)
  exact fresh_blk h' hj
theorem clear_slot {news aX rr ww : List Nat} {st st' : PS} {o : Oper} (h : dB P n ops news st o aX rr ww st') {k : Nat} (hk : k ∈ news) {d : Tmp} (hd : o.dst = some d) : (qN st'.sl d).names k = false ∨ ∃ t ∈ fD ops o, (qN st.sl t).names k = true := by
  cases h with
  | e _ _ _ _ hn =>
    simp only [zY, hd, if_true]
    simp only [clearR, List.all_eq_true] at hn
    have h1 := hn k hk
    rw [Bool.or_eq_true, List.any_eq_true] at h1
    rcases h1 with h1 | h1
    · left; simpa using h1
    · exact .inr h1
  | n _ _ _ _ hn _ =>
    simp only [zY, hd, if_true]
    simp only [clear1, List.all_eq_true] at hn
    left; simpa using hn k hk
  | t => simp only [zY, hd, if_true]; exact .inl rfl
  | skip => simp only [zY, hd, if_true]; exact .inl rfl
theorem clear_blk {news aX rr ww : List Nat} {st st' : PS} {o : Oper} (h : dB P n ops news st o aX rr ww st') {k : Nat} (hk : k ∈ news) {j : Nat} (hj : j ∈ ww) {c : List SV} (hc : uQ st'.bs j = some c) : yG k c = false := by
  have g : ∀ x, clearL news x = true → yG k x = false := fun x hx => by
    simp only [clearL, List.all_eq_true] at hx
    simpa using hx k hk
  cases h with
  | e => simp at hj
  | n _ _ _ _ _ hcl =>
    simp at hj; subst hj
    simp only [qG, if_true, Option.some.injEq] at hc
    subst hc; exact g _ hcl
  | t _ _ _ _ hcl =>
    simp at hj; subst hj
    simp only [qG, if_true, Option.some.injEq] at hc
    subst hc; exact g _ hcl
  | skip => simp at hj
end
def backB (ops : Array Oper) : Bool := (List.range ops.size).all fun j => match ops[j]? with
  | some o => o.after.all fun e => !(Region.binds .any e) || Nat.blt e.on j
  | none => true
structure Inv (C : Ctx) (ops : Array Oper) (f : Nat → PS) (w : Nat → List Nat) (A : Nat → Prop) (a : Act) (wd : World) (D : uW) (β : vR) : Prop where
  base : Base C a wd D
  slots : ∀ t x, CurS ops f A t x → vO wd D β (a.tmps.getD t undef) x
  blks : ∀ k cs, bB ops f w A k (some cs) → yQ wd D β k cs
  inj : ∀ k1 k2 c1 c2, bB ops f w A k1 (some c1) → bB ops f w A k2 (some c2) → ∀ b, β k1 = some b → β k2 = some b → k1 = k2
  high : ∀ k c, bB ops f w A k (some c) → ∀ b, β k = some b → C.w0.heap.size ≤ b
def Needs (ops : Array Oper) (r w : Nat → List Nat) (i j : Nat) : Prop :=
  ∀ oi oj, ops[i]? = some oi → ops[j]? = some oj → (∃ d, oi.dst = some d ∧ d ∈ fD ops oj) ∨ (∃ d, oj.dst = some d ∧ d ∈ fD ops oi) ∨ (∃ d, oi.dst = some d ∧ oj.dst = some d) ∨ (∃ k, k ∈ w i ∧ k ∈ r j) ∨ (∃ k, k ∈ w i ∧ k ∈ w j) ∨ (∃ k, k ∈ w j ∧ k ∈ r i) → ancB ops ops.size j i = true
theorem dstIn_of {o : Oper} {l : List Tmp} {d : Tmp} (h : o.dst = some d) (hm : d ∈ l) : dstIn o l = true := by
  simp only [dstIn, h]; exact memB_iff.2 hm
theorem needs_of {ops : Array Oper} {acc : List (List Nat × List Nat)} {r w : Nat → List Nat} (h : orderB ops acc = true) (hacc : ∀ i, i < ops.size → acc[i]? = some (r i, w i)) {i j : Nat} (hij : i < j) (hj : j < ops.size) : Needs ops r w i j := by
  intro oi oj hoi hoj hd
  simp only [orderB, Bool.and_eq_true, allPairs, List.all_eq_true, List.mem_range] at h
  have h1 := h.2 j hj i hij
  simp only [Bool.or_eq_true, Bool.not_eq_true'] at h1
  rcases h1 with h1 | h1
  · simp only [needB, hoi, hoj, hacc i (by omega), hacc j hj, Bool.or_eq_false_iff] at h1
    obtain ⟨⟨⟨⟨⟨q1, q2⟩, q3⟩, q4⟩, q5⟩, q6⟩ := h1
    rcases hd with ⟨d, h2, h3⟩ | ⟨d, h2, h3⟩ | ⟨d, h2, h3⟩ | ⟨k, h2, h3⟩ | ⟨k, h2, h3⟩ | ⟨k, h2, h3⟩
    · rw [dstIn_of h2 h3] at q1; cases q1
    · rw [dstIn_of h2 h3] at q2; cases q2
    · rw [dstIn_of h2 (by simp [h3])] at q3; cases q3
    · rw [meetB_of h2 h3] at q4; cases q4
    · rw [meetB_of h2 h3] at q5; cases q5
    · rw [meetB_of h2 h3] at q6; cases q6
  · exact h1
theorem countP_lt {p q : Nat → Bool} {i : Nat} : ∀ {l : List Nat}, (∀ x ∈ l, p x = true → q x = true) → i ∈ l → q i = true → p i = false → l.countP p < l.countP q
  | [], _, h, _, _ => by simp at h
  | y :: l, hpq, hi, hq, hp => by
    simp only [List.countP_cons]
    have hle : l.countP p ≤ l.countP q := List.countP_mono_left fun x hx => hpq x (by simp [hx])
    rcases List.mem_cons.1 hi with rfl | hi
    · rw [hq, hp]; simp; omega
    · have := countP_lt (fun x hx => hpq x (by simp [hx])) hi hq hp
      have h1 := hpq y (by simp)
      by_cases hy : p y = true
      · rw [hy, h1 hy]; simp; omega
      · simp only [hy]
        split <;> simp at * <;> omega
section
variable {P : Program} {n : Fr} {ops : Array Oper} {f : Nat → PS} {g r w : Nat → List Nat} {C : Ctx} {Q : Exit → Act → World → Prop}
theorem all_listed {listed : Array Bool} (hb : backB ops = true) (hr : Region.ready .any ops listed = []) (hsz : listed.size = ops.size) : ∀ i, i < ops.size → L listed i := by
  intro i
  induction i using Nat.strongRecOn with
  | _ i ih =>
    intro hi
    rcases hL : listed.getD i false with _ | _
    · exfalso
      have : i ∈ Region.ready .any ops listed := by
        rw [mem_ready]
        refine ⟨?_, ops[i], Array.getElem?_eq_getElem hi, fun e he hbd => ?_⟩
        · rw [Array.getD_eq_getD_getElem?] at hL ⊢
          have hlt : i < listed.size := by omega
          simp only [Array.getElem?_eq_getElem hlt, Option.getD_some] at hL ⊢
          exact hL
        · simp only [backB, List.all_eq_true, List.mem_range] at hb
          have h1 := hb i hi
          rw [Array.getElem?_eq_getElem hi] at h1
          simp only [Array.all_eq_true_iff_forall_mem, Bool.or_eq_true, Bool.not_eq_true'] at h1
          rcases h1 e he with h2 | h2
          · rw [hbd] at h2; cases h2
          · have hlt : e.on < i := Nat.le_of_ble_eq_true h2
            exact ih e.on hlt (by omega)
      rw [hr] at this
      cases this
    · exact hL
theorem inv_end (hf : Line P n ops f g r w) {A : Nat → Prop} (hA : ∀ i, i < ops.size → A i) {a : Act} {wd : World} {D : uW} {β : vR} (h : Inv C ops f w A a wd D β) : SimAt C a wd (f ops.size) D β := by
  have hS : ∀ t, CurS ops f A t (qN (f ops.size).sl t) := fun t => curS_text hf A t ops.size (Nat.le_refl _) (fun j hj _ => hA j hj) (fun j h1 h2 => by omega)
  have hB : ∀ k c, uQ (f ops.size).bs k = some c → bB ops f w A k (some c) := fun k c hc => hc ▸ curB_text hf A k ops.size (Nat.le_refl _) (fun j hj _ => hA j hj) (fun j h1 h2 => by omega)
  exact ⟨h.base, ⟨fun k cs hk => h.blks k cs (hB k cs hk), fun k1 k2 c1 c2 h1 h2 => h.inj k1 k2 c1 c2 (hB _ _ h1) (hB _ _ h2)⟩, fun k c hk => h.high k c (hB k c hk), fun t => h.slots t _ (hS t)⟩
end
end Go.Fid
namespace Go.Fid
open Go.RowKit (Below)
section
variable {P : Program} {n : Fr} {ops : Array Oper} {f : Nat → PS} {g r w : Nat → List Nat} {C : Ctx} {Q : Exit → Act → World → Prop}
theorem L_set {listed : Array Bool} {i : Nat} (hi : i < listed.size) (j : Nat) : L (listed.setIfInBounds i true) j ↔ (L listed j ∨ j = i) := by
  unfold L
  simp only [Array.getD_eq_getD_getElem?, Array.getElem?_setIfInBounds]
  by_cases h : i = j
  · subst h; simp [hi]
  · have h' : j ≠ i := fun e => h e.symm
    simp [h, h']
def wpOp1 (P : Program) (ops : Array Oper) (Q : Exit → Act → World → Prop) (i : Nat) (K : Act → World → Prop) (a : Act) (w : World) : Prop :=
  match ops[i]? with
  | none => K a w
  | some o => if Region.wanted o (yielded ops a.tmps) then o.wp P a w K Q else K (a.put o.dst undef) w
theorem op1_lift {n : Fr} {N i : Nat} {K : Act → World → Prop} {a : Act} {w : World} (hp : ops.toList.all nK = true) (h : wpOp1 P ops Q i K a w) : wpOpIn (fen n) N P ops Q i K a w := by
  unfold wpOp1 at h
  unfold wpOpIn
  cases ho : ops[i]? with
  | none => rw [ho] at h; exact h
  | some o =>
    rw [ho] at h
    simp only at h ⊢
    have hpo : nK o = true := List.all_eq_true.1 hp o (by
      have := Array.mem_of_getElem? ho
      exact Array.mem_toList_iff.2 this)
    split
    · rename_i e; rw [if_pos e] at h; exact op_lift hpo h
    · rename_i e; rw [if_neg e] at h; exact ⟨fun _ _ => trivial, h⟩
theorem last_writer (hf : Line P n ops f g r w) (i : Nat) (d : Tmp) : ∀ j, i ≤ j → j ≤ ops.size → qN (f j).sl d = qN (f i).sl d ∨ ∃ j', i ≤ j' ∧ j' < j ∧ mO ops j' = some d ∧ qN (f (j' + 1)).sl d = qN (f j).sl d := by
  intro j
  induction j with
  | zero => intro h _; obtain rfl : i = 0 := (by omega); exact .inl rfl
  | succ j ih =>
    intro h1 h2
    by_cases he : i = j + 1
    · subst he; exact .inl rfl
    have ho : ops[j]? = some ops[j] := Array.getElem?_eq_getElem (by omega)
    by_cases hd : mO ops j = some d
    · exact .inr ⟨j, by omega, by omega, hd, rfl⟩
    · have hs : qN (f (j + 1)).sl d = qN (f j).sl d := dstep_slot (hf.step j _ ho) (fun e => hd (by simp [mO, ho, e]))
      rcases ih (by omega) (by omega) with h | ⟨j', a, b, c, e⟩
      · exact .inl (hs.trans h)
      · exact .inr ⟨j', a, by omega, c, e.trans hs.symm⟩
theorem any_step (hn : C.n = n) (hf : Line P n ops f g r w) (hneed : ∀ i j, i < j → j < ops.size → Needs ops r w i j) {listed : Array Bool} (hsz : listed.size = ops.size) (hcl : Closed ops listed)
    {i : Nat} (hi : i < ops.size) (hnot : ¬ L listed i) (hedge : ∀ o, ops[i]? = some o → ∀ e ∈ o.after, Region.binds .any e = true → L listed e.on) {a : Act} {wd : World} {D : uW} {β : vR} (hinv : Inv C ops f w (L listed) a wd D β)
    {K : Act → World → Prop} (hk : ∀ a' wd' D' β', Inv C ops f w (L (listed.setIfInBounds i true)) a' wd' D' β' → K a' wd') : wpOp1 P ops Q i K a wd := by
  have ho : ops[i]? = some ops[i] := Array.getElem?_eq_getElem hi
  generalize hoo : ops[i] = o at ho
  have hst := hf.step i o ho
  have hA := L_set (listed := listed) (i := i) (by omega)
  have hdst : mO ops i = o.dst := by simp [mO, ho]
  -- what must come before i has come; what must come behind i has not
  have before : ∀ j, j < i → ancB ops ops.size i j = true → L listed j := fun j _ h => iM hcl ops.size i j h hedge
  have behind : ∀ j, i < j → j < ops.size → ancB ops ops.size j i = true → ¬ L listed j := fun j _ hj h hl => hnot (iM hcl ops.size j i h fun o' ho' => hcl j o' ho' hl)
  have dst_get : ∀ j t, mO ops j = some t → ∃ oj, ops[j]? = some oj ∧ oj.dst = some t := fun j t h => by
    unfold mO at h
    cases hj : ops[j]? with
    | none => simp [hj] at h
    | some oj => exact ⟨oj, rfl, by simpa [hj] using h⟩
  have lt_of : ∀ j t, mO ops j = some t → j < ops.size := fun j t h => by
    obtain ⟨oj, h1, _⟩ := dst_get j t h
    exact (Array.getElem?_eq_some_iff.1 h1).1
  -- a slot that the operation looks at holds what the text says
  have read : ∀ t, t ∈ fD ops o → vO wd D β (a.tmps.getD t undef) (qN (f i).sl t) := fun t ht => by
    refine hinv.slots t _ (curS_text hf _ t i (by omega) (fun j hj hd => ?_) (fun j hj hj2 hl hd => ?_))
    · obtain ⟨oj, h1, h2⟩ := dst_get j t hd
      exact before j hj (hneed j i hj hi oj o h1 ho (.inl ⟨t, h2, ht⟩))
    · rcases Nat.lt_or_ge i j with h | h
      · obtain ⟨oj, h1, h2⟩ := dst_get j t hd
        exact behind j h hj2 (hneed i j h hj2 o oj ho h1 (.inr (.inl ⟨t, h2, ht⟩))) hl
      · obtain rfl : j = i := (by omega)
        exact hnot hl
  have hop : Opnds wd D β a o (qN (f i).sl) := fun y hy => by
    cases y with
    | tmp t =>
      refine read t ?_
      simp only [fD, List.mem_append, List.mem_flatMap]
      exact .inl ⟨_, Array.mem_toList_iff.2 hy, by simp [tmpOf]⟩
    | const v => exact xK.val v
    | func f => exact xK.val _
    | global g => trivial
  have hwant : ∀ bv, yR ops (f i).sl o = some bv → Region.wanted o (yielded ops a.tmps) = bv := fun bv hg => wanted_of hg fun j want d h1 h2 => read d (by
    simp only [fD, List.mem_append]
    exact .inr (by simp [h1, h2]))
  have late_w : ∀ k, k ∈ w i → ∀ j, i < j → j < ops.size → L listed j → k ∉ w j := fun k hk j hj hj2 hl hkj =>
    behind j hj hj2 (hneed i j hj hj2 o _ ho (Array.getElem?_eq_getElem hj2) (.inr (.inr (.inr (.inr (.inl ⟨k, hk, hkj⟩)))))) hl
  have late_d : ∀ t, o.dst = some t → ∀ j, i < j → j < ops.size → L listed j → mO ops j ≠ some t := fun t ht j hj hj2 hl hd => by
    obtain ⟨oj, h1, h2⟩ := dst_get j t hd
    exact behind j hj hj2 (hneed i j hj hj2 o oj ho h1 (.inr (.inr (.inl ⟨t, ht, h2⟩)))) hl
  have blk_text : ∀ k, (k ∈ r i ∨ k ∈ w i) → bB ops f w (L listed) k (uQ (f i).bs k) := fun k hk => curB_text hf _ k i (by omega) (fun j hj hd => by
      have h1 : ops[j]? = some ops[j] := Array.getElem?_eq_getElem (by omega)
      refine before j hj (hneed j i hj hi _ o h1 ho ?_)
      rcases hk with hk | hk
      · exact .inr (.inr (.inr (.inl ⟨k, hd, hk⟩)))
      · exact .inr (.inr (.inr (.inr (.inl ⟨k, hd, hk⟩))))) (fun j hj hj2 hl hd => by
      rcases Nat.lt_or_ge i j with h | h
      · have h1 : ops[j]? = some ops[j] := Array.getElem?_eq_getElem hj2
        refine behind j h hj2 (hneed i j h hj2 o _ ho h1 ?_) hl
        rcases hk with hk | hk
        · exact .inr (.inr (.inr (.inr (.inr ⟨k, hd, hk⟩))))
        · exact .inr (.inr (.inr (.inr (.inl ⟨k, hk, hd⟩))))
      · obtain rfl : j = i := (by omega)
        exact hnot hl)
  -- names of blocks that are made here
  have name_s : ∀ k, (∀ k', k' = k → hZ k' (f i) = true) → k ∈ g (i + 1) → ∀ t x, CurS ops f (L listed) t x → x.names k = false := fun k hfr hkn t x hc => by
    have clear_from : ∀ m j, j < m → i < j → j < ops.size → L listed j → ∀ t, mO ops j = some t → (qN (f (j + 1)).sl t).names k = false := by
      intro m
      induction m with
      | zero => intro j h; omega
      | succ m ih =>
        intro j hjm hij hj hl t hd
        obtain ⟨oj, h1, h2⟩ := dst_get j t hd
        rcases clear_slot (hf.step j oj h1) (news_mono hf (show i + 1 ≤ j by omega) (by omega) k hkn) h2 with h | ⟨d, hdr, hdn⟩
        · exact h
        · exfalso
          rcases last_writer hf i d j (by omega) (by omega) with hw | ⟨j', q1, q2, q3, q4⟩
          · rw [hw] at hdn
            obtain ⟨l, hl'⟩ := sl_suffix hf (Nat.le_refl i) (by omega)
            rw [fresh_sl (hfr k rfl) (l := []) rfl d] at hdn
            cases hdn
          · obtain ⟨oj', p1, p2⟩ := dst_get j' d q3
            have hanc := hneed j' j q2 hj oj' oj p1 h1 (.inl ⟨d, p2, hdr⟩)
            rcases Nat.lt_or_ge i j' with hlt | hge
            · have hl' : L listed j' := iM hcl ops.size j j' hanc fun o' ho' => hcl j o' ho' hl
              rw [← q4, ih j' (by omega) hlt (by omega) hl' d q3] at hdn
              cases hdn
            · obtain rfl : j' = i := (by omega)
              exact behind j hij hj hanc hl
    have clear_from : ∀ j, i < j → j < ops.size → L listed j → ∀ t, mO ops j = some t → (qN (f (j + 1)).sl t).names k = false := fun j => clear_from (j + 1) j (by omega)
    rcases curS_from hc with h | ⟨j, hj, hl, hd, h⟩
    · subst h
      obtain ⟨l, hl⟩ := sl_suffix hf (Nat.zero_le i) (by omega)
      exact fresh_sl (hfr k rfl) hl t
    · subst h
      rcases Nat.lt_trichotomy j i with hji | hji | hji
      · obtain ⟨l, hl'⟩ := sl_suffix hf (show j + 1 ≤ i by omega) (by omega)
        exact fresh_sl (hfr k rfl) hl' t
      · subst hji; exact absurd hl hnot
      · exact clear_from j hji hj hl t hd
  have name_b : ∀ k, hZ k (f i) = true → k ∈ g (i + 1) → k ∈ w i → ∀ k' c, bB ops f w (L listed) k' (some c) → k' ≠ k ∧ yG k c = false := fun k hfr hkn hkw k' c hc => by
    rcases hc with ⟨j, hj, hl, hd, hmax, h⟩ | ⟨hno, h⟩
    · rcases Nat.lt_trichotomy j i with hji | hji | hji
      · obtain ⟨l, hl'⟩ := bs_suffix hf (show j + 1 ≤ i by omega) (by omega)
        exact fresh_bs hfr hl' h.symm
      · subst hji; exact absurd hl hnot
      · have h1 : ops[j]? = some ops[j] := Array.getElem?_eq_getElem hj
        refine ⟨fun e => ?_, clear_blk (hf.step j _ h1) (news_mono hf (show i + 1 ≤ j by omega) (by omega) k hkn) hd h.symm⟩
        subst e
        exact late_w k' hkw j hji hj hl hd
    · obtain ⟨l, hl'⟩ := bs_suffix hf (Nat.zero_le i) (by omega)
      exact fresh_bs hfr hl' h.symm
  unfold wpOp1
  rw [ho]
  dsimp only
  subst hn
  have old_s : ∀ t x, o.dst ≠ some t → CurS ops f (L (listed.setIfInBounds i true)) t x → CurS ops f (L listed) t x := fun t x ht hc => curS_old hA (by rw [hdst]; exact ht) hc
  have new_s : ∀ t x, o.dst = some t → CurS ops f (L (listed.setIfInBounds i true)) t x → x = qN (f (i + 1)).sl t := fun t x ht hc => curS_new hi hA (by rw [hdst]; exact ht) (late_d t ht) hc
  have old_b : ∀ k c, k ∉ w i → bB ops f w (L (listed.setIfInBounds i true)) k c → bB ops f w (L listed) k c := fun k c hk hc => curB_old hA hk hc
  have new_b : ∀ k c, k ∈ w i → bB ops f w (L (listed.setIfInBounds i true)) k c → c = uQ (f (i + 1)).bs k := fun k c hk hc => curB_new hi hA hk (late_w k hk) hc
  generalize hfi : f (i + 1) = st' at hst new_s new_b
  generalize hri : r i = rr at hst blk_text
  generalize hwi : w i = ww at hst blk_text old_b new_b name_b
  generalize hgi : g (i + 1) = gg at hst name_s name_b
  cases hst with
  | e h hg hd hrd hcl1 =>
    rename_i rd x
    rw [if_pos (hwant true hg)]
    refine Oper.wp_mono (fun a' wd' hp => ?_) (h a wd D β Q hop (fun p hp => ?_) hinv.base.dok)
    · obtain ⟨v, D', rfl, h1, h2, h3⟩ := hp
      refine hk _ _ D' β ⟨(hinv.base.up h1 h2).put hd _, fun t y hc => ?_, fun k cs hc => (hinv.blks k cs (old_b k _ (by simp) hc)).up h1 h2 hinv.base.dok, fun k1 k2 c1 c2 q1 q2 => hinv.inj k1 k2 c1 c2 (old_b _ _ (by simp) q1) (old_b _ _ (by simp) q2), fun k c hc => hinv.high k c (old_b _ _ (by simp) hc)⟩
      rw [zB hinv.base.size hd]
      by_cases ht : o.dst = some t
      · rw [if_pos ht]
        have := new_s t y ht hc
        simp only [zY, ht, if_true] at this
        subst this; exact h3
      · rw [if_neg ht]
        exact (hinv.slots t y (old_s t y ht hc)).up h1 h2 hinv.base.dok
    · have h1 := blk_text p.1 (.inl (List.mem_map_of_mem hp))
      rw [hrd p hp] at h1
      exact hinv.blks _ _ h1
  | n h hg hd hfr hcl1 hcl2 =>
    rename_i k cs x
    rw [if_pos (hwant true hg)]
    refine Oper.wp_mono (fun a' wd' hp => ?_) (h a wd D β Q hop hinv.base.dok)
    obtain ⟨v, D', b, rfl, h1, h2, h3, h4, h5, h6, h7⟩ := hp
    have hβ : ∀ j, j ≠ k → (β.set k b) j = β j := fun j hj => by simp [vR.set, hj]
    have hlt : ∀ j c, bB ops f w (L listed) j (some c) → ∀ b', β j = some b' → b' < wd.heap.size := fun j c hj b' hb' => by
      rcases hinv.blks j c hj with ⟨q1, _⟩ | ⟨b2, vs, T, q1, q2, _⟩
      · rw [q1] at hb'; cases hb'
      · rw [q1] at hb'; injection hb' with e; subst e; exact zQ q2
    have hkk : ∀ c, bB ops f w (L (listed.setIfInBounds i true)) k c → c = some cs := fun c hc => by
      have := new_b k c (by simp) hc
      simpa [qG] using this
    refine hk _ _ D' (β.set k b) ⟨(hinv.base.up h1 h2).put hd _, fun t y hc => ?_, fun j c hc => ?_, fun k1 k2 c1 c2 q1 q2 b' e1 e2 => ?_, fun j c hc b' hb' => ?_⟩
    · rw [zB hinv.base.size hd]
      by_cases ht : o.dst = some t
      · rw [if_pos ht]
        have := new_s t y ht hc
        simp only [zY, ht, if_true] at this
        subst this; exact h7
      · rw [if_neg ht]
        have hc' := old_s t y ht hc
        exact ((hinv.slots t y hc').up h1 h2 hinv.base.dok).frame hβ (name_s k (fun k' e => by subst e; exact hfr) (by simp) t y hc')
    · by_cases hj : j = k
      · subst hj
        have := hkk _ hc
        injection this with this
        subst this; exact h6
      · have hc' := old_b j _ (by simpa using hj) hc
        obtain ⟨q1, q2⟩ := name_b k hfr (by simp) (by simp) j c hc'
        exact ((hinv.blks j c hc').up h1 h2 hinv.base.dok).frame hβ q1 q2
    · by_cases j1 : k1 = k <;> by_cases j2 : k2 = k
      · omega
      · subst j1
        have q2' := old_b k2 _ (by simpa using j2) q2
        rw [hβ k2 j2] at e2
        have := hlt k2 _ q2' b' e2
        simp [vR.set] at e1
        omega
      · subst j2
        have q1' := old_b k1 _ (by simpa using j1) q1
        rw [hβ k1 j1] at e1
        have := hlt k1 _ q1' b' e1
        simp [vR.set] at e2
        omega
      · rw [hβ k1 j1] at e1
        rw [hβ k2 j2] at e2
        exact hinv.inj k1 k2 _ _ (old_b k1 _ (by simpa using j1) q1) (old_b k2 _ (by simpa using j2) q2) b' e1 e2
    · by_cases hj : j = k
      · subst hj
        simp [vR.set] at hb'
        have := hinv.base.below.size
        omega
      · rw [hβ j hj] at hb'
        exact hinv.high j c (old_b j _ (by simpa using hj) hc) b' hb'
  | t h hg hd hb hcl2 =>
    rename_i k old cs
    rw [if_pos (hwant true hg)]
    have hcur : bB ops f w (L listed) k (some old) := by
      have h1 := blk_text k (.inl (by simp))
      rw [hb] at h1
      exact h1
    refine Oper.wp_mono (fun a' wd' hp => ?_) (h a wd D β Q hop (hinv.blks k old hcur) hinv.base.dok)
    obtain ⟨rfl, b, h1, h2, h3, h4⟩ := hp
    have hkk : ∀ c, bB ops f w (L (listed.setIfInBounds i true)) k c → c = some cs := fun c hc => by
      have := new_b k c (by simp) hc
      simpa [qG] using this
    have hold : ∀ j c, bB ops f w (L (listed.setIfInBounds i true)) j (some c) → ∃ c', bB ops f w (L listed) j (some c') := fun j c hc => by
      by_cases hj : j = k
      · subst hj; exact ⟨_, hcur⟩
      · exact ⟨_, old_b j _ (by simpa using hj) hc⟩
    refine hk _ _ D β ⟨(hinv.base.wrote h2 (hinv.high k _ hcur b h1) (blk_heap (hinv.blks k old hcur) h1) h3).put hd _, fun t y hc => ?_, fun j c hc => ?_, fun k1 k2 c1 c2 q1 q2 b' e1 e2 => ?_, fun j c hc b' hb' => ?_⟩
    · rw [zB hinv.base.size hd]
      by_cases ht : o.dst = some t
      · rw [if_pos ht]
        have := new_s t y ht hc
        simp only [zY, ht, if_true] at this
        subst this; trivial
      · rw [if_neg ht]
        exact h2.repS h3 (hinv.slots t y (old_s t y ht hc))
    · by_cases hj : j = k
      · subst hj
        have := hkk _ hc
        injection this with this
        subst this; exact h4
      · have hc' := old_b j _ (by simpa using hj) hc
        exact h2.blk h3 (fun e => hj (hinv.inj j k _ _ hc' hcur b e h1)) (hinv.blks j c hc')
    · obtain ⟨d1, g1⟩ := hold k1 c1 q1
      obtain ⟨d2, g2⟩ := hold k2 c2 q2
      exact hinv.inj k1 k2 d1 d2 g1 g2 b' e1 e2
    · obtain ⟨d1, g1⟩ := hold j c hc
      exact hinv.high j d1 g1 b' hb'
  | skip hg hd =>
    rw [if_neg (by rw [hwant false hg]; simp)]
    refine hk _ _ D β ⟨hinv.base.put hd _, fun t y hc => ?_, fun k cs hc => hinv.blks k cs (old_b k _ (by simp) hc), fun k1 k2 c1 c2 q1 q2 => hinv.inj k1 k2 c1 c2 (old_b _ _ (by simp) q1) (old_b _ _ (by simp) q2), fun k c hc => hinv.high k c (old_b _ _ (by simp) hc)⟩
    rw [zB hinv.base.size hd]
    by_cases ht : o.dst = some t
    · rw [if_pos ht]
      have := new_s t y ht hc
      simp only [zY, ht, if_true] at this
      subst this; exact rep_undef _ _
    · rw [if_neg ht]
      exact hinv.slots t y (old_s t y ht hc)
def unl (ops : Array Oper) (listed : Array Bool) : Nat := (List.range ops.size).countP fun i => !(listed.getD i false)
theorem any_sound (hn : C.n = n) (hf : Line P n ops f g r w) (hneed : ∀ i j, i < j → j < ops.size → Needs ops r w i j) (hback : backB ops = true) (hpl : ops.toList.all nK = true) {N : Nat} (hk : ∀ a' w', eQ C a' w' (f ops.size) → Q .normal a' w') :
    ∀ (fuel : Nat) (listed : Array Bool) (a : Act) (wd : World) (D : uW) (β : vR), listed.size = ops.size → Closed ops listed → unl ops listed ≤ fuel → Inv C ops f w (L listed) a wd D β → wpAnyIn (fen n) N P .any ops Q fuel listed a wd := by
  have fin : ∀ (listed : Array Bool) (a : Act) (wd : World) (D : uW) (β : vR), listed.size = ops.size → Inv C ops f w (L listed) a wd D β → Region.ready .any ops listed = [] → Q .normal a wd := fun listed a wd D β hsz hinv hr =>
    hk a wd ⟨D, β, inv_end hf (all_listed hback hr hsz) hinv⟩
  intro fuel
  induction fuel with
  | zero =>
    intro listed a wd D β hsz hcl hu hinv
    have hr : Region.ready .any ops listed = [] := by
      rw [List.eq_nil_iff_forall_not_mem]
      intro i hi
      obtain ⟨h1, o, h2, _⟩ := mem_ready.1 hi
      have hlt : i < ops.size := (Array.getElem?_eq_some_iff.1 h2).1
      have h0 : unl ops listed = 0 := by omega
      unfold unl at h0
      rw [List.countP_eq_zero] at h0
      have h3 := h0 i (by simpa using hlt)
      rw [Array.getD_eq_getD_getElem?] at h1 h3
      have : i < listed.size := by omega
      simp only [Array.getElem?_eq_getElem this, Option.getD_some] at h1 h3
      rw [h1] at h3
      simp at h3
    exact ⟨hr, fin listed a wd D β hsz hinv hr⟩
  | succ fuel ih =>
    intro listed a wd D β hsz hcl hu hinv
    refine ⟨fin listed a wd D β hsz hinv, fun i hi => ?_⟩
    obtain ⟨h1, o, h2, h3⟩ := mem_ready.1 hi
    have hlt : i < ops.size := (Array.getElem?_eq_some_iff.1 h2).1
    have hls : i < listed.size := by omega
    have hnot : ¬ L listed i := fun h => by
      unfold L at h
      rw [Array.getD_eq_getD_getElem?] at h1 h
      simp only [Array.getElem?_eq_getElem hls, Option.getD_some] at h1 h
      rw [h1] at h; cases h
    have hA := L_set (listed := listed) hls
    refine op1_lift hpl ?_
    refine any_step hn hf hneed hsz hcl hlt hnot (fun o' ho' => by rw [h2] at ho'; injection ho' with e; subst e; exact h3) hinv fun a' wd' D' β' hinv' => ih _ a' wd' D' β' (by simpa using hsz) ?_ ?_ hinv'
    · intro j oj hoj hl e he hb
      rcases (hA j).1 hl with h | h
      · exact (hA _).2 (.inl (hcl j oj hoj h e he hb))
      · subst h
        rw [h2] at hoj
        injection hoj with e'; subst e'
        exact (hA _).2 (.inl (h3 e he hb))
    · have : unl ops (listed.setIfInBounds i true) < unl ops listed := countP_lt (i := i) (fun x _ hx => by
        simp only [Bool.not_eq_true'] at hx ⊢
        rcases h : listed.getD x false with _ | _
        · rfl
        · have := (hA x).2 (.inl h)
          unfold L at this
          rw [this] at hx; cases hx) (by simpa using hlt) (by
          simp only [Bool.not_eq_true']
          rcases h : listed.getD i false with _ | _
          · rfl
          · exact absurd h hnot) (by
          have := (hA i).2 (.inr rfl)
          unfold L at this
          simp [this])
      omega
end
section
variable {P : Program} {n : Fr} {C : Ctx} {Q : Exit → Act → World → Prop}
theorem draw_sound (hn : C.n = n) {ops : Array Oper} {acc : List (List Nat × List Nat)} {st st' : PS} (h : DSteps P n ops [] st ops.toList acc st') (ho : orderB ops acc = true) (hb : backB ops = true) (hpl : ops.toList.all nK = true) {N : Nat}
    (hk : ∀ a' w', eQ C a' w' st' → Q .normal a' w') {a : Act} {wd : World} (hs : eQ C a wd st) : wpAnyIn (fen n) N P .any ops Q ops.size (Array.replicate ops.size false) a { wd with drawn := wd.drawn + 1 } := by
  obtain ⟨f, g, h1, h2, h3, h4, h5⟩ := line_of h
  simp only [Array.length_toList] at h2 h4
  obtain ⟨D, β, hs⟩ := hs
  have hacc : ∀ i, i < ops.size → acc[i]? = some ((acc.getD i ([], [])).1, (acc.getD i ([], [])).2) := fun i hi => by
    have hlt : i < acc.length := by omega
    simp [List.getElem?_eq_getElem hlt]
  have hf : Line P n ops f g (fun i => (acc.getD i ([], [])).1) (fun i => (acc.getD i ([], [])).2) := ⟨fun i o hoi => by
    obtain ⟨r, w, e1, e2⟩ := h5 i o (by simpa using hoi)
    have hlt : i < ops.size := (Array.getElem?_eq_some_iff.1 hoi).1
    have e3 := hacc i hlt
    rw [e1] at e3
    injection e3 with e3
    have e4 : (acc.getD i ([], [])).1 = r := (congrArg Prod.fst e3).symm
    have e5 : (acc.getD i ([], [])).2 = w := (congrArg Prod.snd e3).symm
    simp only [e4, e5]
    exact e2⟩
  have hno : ∀ i, ¬ L (Array.replicate ops.size false) i := fun i hi => by
    unfold L at hi
    rw [Array.getD_eq_getD_getElem?, Array.getElem?_replicate] at hi
    split at hi <;> simp at hi
  refine any_sound hn hf (fun i j hij hj => needs_of ho hacc hij hj) hb hpl (fun a' w' hs' => hk a' w' (h2 ▸ hs')) ops.size _ a _ D β (by simp) (fun j o _ hl => absurd hl (hno j)) ?_ ?_
  · unfold unl
    exact Nat.le_trans (List.countP_le_length) (by simp)
  · have hb0 := below_draw wd
    have hu0 : DUp D D wd { wd with drawn := wd.drawn + 1 } := DUp.of_same D
    have hS : ∀ t x, CurS ops f (L (Array.replicate ops.size false)) t x → x = qN st.sl t := fun t x hc => by
      rcases hc with ⟨i, _, hi, _⟩ | ⟨_, e⟩
      · exact absurd hi (hno i)
      · rw [e, h1]
    have hB : ∀ k c, bB ops f (fun i => (acc.getD i ([], [])).2) (L (Array.replicate ops.size false)) k c → uQ st.bs k = c := fun k c hc => by
      rcases hc with ⟨i, _, hi, _⟩ | ⟨_, e⟩
      · exact absurd hi (hno i)
      · rw [e, h1]
    exact ⟨hs.base.draw, fun t x hc => by rw [hS t x hc]; exact (hs.slots t).up hb0 hu0 hs.base.dok, fun k cs hc => (hs.mem.ok k cs (hB k _ hc)).up hb0 hu0 hs.base.dok,
      fun k1 k2 c1 c2 q1 q2 => hs.mem.inj k1 k2 c1 c2 (hB _ _ q1) (hB _ _ q2), fun k c hc => hs.high k c (hB _ _ hc)⟩
end
end Go.Fid
