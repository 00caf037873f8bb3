/- Part 21 of a proof: rules, plain facts, and functions walked. -/
import Derived.Test.YtleidgohjckmlaaM20
import Derived.Test.YtleidgohjckmlaaM14
import Derived.Test.YtleidgohjckmlaaM17
import Derived.Test.YtleidgohjckmlaaM11
import Derived.Test.YtleidgohjckmlaaM8
import Derived.Test.YtleidgohjckmlaaChecked
import Derived.RangeFuncBox
import Derived.Shelf.Abstract
import Derived.OwnWalkIn
import Derived.TacticsInMore
import Derived.LoopNIn
import Derived.LoopIn
set_option linter.unusedVariables false
set_option linter.unusedSimpArgs false
namespace Go.Fid
inductive R2 {α β : Type} (R : α → β → Prop) : List α → List β → Prop where
  | nil : R2 R [] []
  | cons {a : α} {b : β} {l : List α} {m : List β} : R a b → R2 R l m → R2 R (a :: l) (b :: m)
theorem R2.length {α β : Type} {R : α → β → Prop} {l : List α} {m : List β} (h : R2 R l m) : l.length = m.length := by
  induction h with
  | nil => rfl
  | cons _ _ ih => simp [ih]
theorem R2.get {α β : Type} {R : α → β → Prop} {l : List α} {m : List β} (h : R2 R l m) (d : α) (e : β) : ∀ i, i < l.length → R (l.getD i d) (m.getD i e) := by
  induction h with
  | nil => intro i hi; exact absurd hi (Nat.not_lt_zero _)
  | cons h1 _ ih =>
    intro i hi
    cases i with
    | zero => exact h1
    | succ i => simpa using ih i (by simpa using hi)
theorem R2.of {α β : Type} {R : α → β → Prop} (d : α) (e : β) : ∀ {l : List α} {m : List β}, l.length = m.length → (∀ i, i < l.length → R (l.getD i d) (m.getD i e)) → R2 R l m
  | [], [], _, _ => .nil
  | [], _ :: _, h, _ => by simp at h
  | _ :: _, [], h, _ => by simp at h
  | a :: l, b :: m, h, k => .cons (k 0 (by simp)) (R2.of d e (by simpa using h) fun i hi => by simpa using k (i + 1) (by simpa using hi))
theorem R2.map {α β γ δ : Type} {R : α → β → Prop} {S : γ → δ → Prop} {f : α → γ} {g : β → δ} {l : List α} {m : List β} (h : R2 R l m) (hf : ∀ a b, R a b → S (f a) (g b)) : R2 S (l.map f) (m.map g) := by
  induction h with
  | nil => exact .nil
  | cons h1 _ ih => exact .cons (hf _ _ h1) ih
theorem R2.same {α γ δ : Type} {S : γ → δ → Prop} {f : α → γ} {g : α → δ} (l : List α) (h : ∀ a ∈ l, S (f a) (g a)) : R2 S (l.map f) (l.map g) := by
  induction l with
  | nil => exact .nil
  | cons a l ih => exact .cons (h a (.head _)) (ih fun b hb => h b (.tail _ hb))
theorem R2.app {α β : Type} {R : α → β → Prop} {l l' : List α} {m m' : List β} (h : R2 R l m) (h' : R2 R l' m') : R2 R (l ++ l') (m ++ m') := by
  induction h with
  | nil => exact h'
  | cons h1 _ ih => exact .cons h1 ih
theorem R2.flat {α β : Type} {R : α → β → Prop} {T : List (List α)} {U : List (List β)} (h : R2 (R2 R) T U) : R2 R T.flatten U.flatten := by
  induction h with
  | nil => exact .nil
  | cons h1 _ ih => exact h1.app ih
theorem R2.take {α β : Type} {R : α → β → Prop} {l : List α} {m : List β} (h : R2 R l m) : ∀ n, R2 R (l.take n) (m.take n) := by
  induction h with
  | nil => intro n; simp; exact .nil
  | cons h1 _ ih =>
    intro n
    cases n with
    | zero => exact .nil
    | succ n => exact .cons h1 (ih n)
theorem R2.drop {α β : Type} {R : α → β → Prop} {l : List α} {m : List β} (h : R2 R l m) : ∀ n, R2 R (l.drop n) (m.drop n) := by
  induction h with
  | nil => intro n; simp; exact .nil
  | cons h1 h2 ih =>
    intro n
    cases n with
    | zero => exact .cons h1 h2
    | succ n => exact ih n
theorem R2.rows {R : Int → Int → Prop} {l m : List Int} (h : R2 R l m) (w n : Nat) : R2 (R2 R) (rowsOf w n l) (rowsOf w n m) := R2.same _ fun y _ => (h.drop _).take _
theorem R2.lo {R : Int → Int → Prop} (hR : ∀ a b c d, R a b → R c d → R ((a + c).fdiv 2) ((b + d).fdiv 2)) : ∀ {l m : List Int}, R2 R l m → R2 R (loS l) (loS m)
  | [], _, .nil => .nil
  | [_], _, .cons h1 .nil => .cons h1 .nil
  | _ :: _ :: _, _, .cons h1 (.cons h2 h3) => .cons (hR _ _ _ _ h1 h2) (R2.lo hR h3)
theorem R2.hi {R S : Int → Int → Prop} (hR : ∀ a b c d, R a b → R c d → S (a - c) (b - d)) : ∀ {l m : List Int}, R2 R l m → R2 S (hiS l) (hiS m)
  | [], _, .nil => .nil
  | [_], _, .cons h1 .nil => .nil
  | _ :: _ :: _, _, .cons h1 (.cons h2 h3) => .cons (hR _ _ _ _ h1 h2) (R2.hi hR h3)
theorem R2.col {R : Int → Int → Prop} {w j : Nat} (hj : j < w) : ∀ {T U : List (List Int)}, R2 (R2 R) T U → Rect w T → R2 R (T.map fun r => r.getD j 0) (U.map fun r => r.getD j 0)
  | _, _, .nil, _ => .nil
  | _, _, .cons h1 h2, hT => .cons (h1.get 0 0 j (by rw [hT _ (.head _)]; exact hj)) (R2.col hj h2 fun r hr => hT r (.tail _ hr))
theorem R2.tr {R : Int → Int → Prop} {w : Nat} {T U : List (List Int)} (h : R2 (R2 R) T U) (hT : Rect w T) : R2 (R2 R) (Go.Fid.tr w T) (Go.Fid.tr w U) := R2.same _ fun j hj => R2.col (List.mem_range.1 hj) h hT
theorem R2.rect {R : Int → Int → Prop} {w : Nat} : ∀ {T U : List (List Int)}, R2 (R2 R) T U → Rect w T → Rect w U
  | _, _, .nil, _ => fun r hr => by simp at hr
  | _, _, .cons h1 h2, hT => fun r hr => by
    rcases List.mem_cons.1 hr with e | e
    · rw [e, ← h1.length]; exact hT _ (.head _)
    · exact R2.rect h2 (fun r hr => hT r (.tail _ hr)) r e
theorem R2.trP {R : Int → Int → Prop} {w : Nat} {T U : List (List Int)} (h : R2 (R2 R) T U) (hT : Rect w T) : R2 (R2 R) (Go.Fid.trP T) (Go.Fid.trP U) := by
  by_cases h0 : 0 < T.length
  · rw [trP_eq hT (ne_len h0), trP_eq (h.rect hT) (ne_len (by rw [← h.length]; exact h0))]
    exact h.tr hT
  · have e1 := List.eq_nil_of_length_eq_zero (show T.length = 0 by omega)
    have e2 := List.eq_nil_of_length_eq_zero (show U.length = 0 by have := h.length; omega)
    rw [e1, e2]; exact .nil
theorem trP_rect {w : Nat} {T : List (List Int)} (hT : Rect w T) : Rect T.length (Go.Fid.trP T) := by
  by_cases h0 : 0 < T.length
  · rw [trP_eq hT (ne_len h0)]; exact tr_rect _ _
  · rw [List.eq_nil_of_length_eq_zero (show T.length = 0 by omega)]
    intro r hr; simp [Go.Fid.trP, Go.Fid.tr] at hr
theorem R2.low {R : Int → Int → Prop} (hR : ∀ a b c d, R a b → R c d → R ((a + c).fdiv 2) ((b + d).fdiv 2)) {w h : Nat} {px qx : List Int} (hl : px.length = w * h) (hpq : R2 R px qx) : R2 R (bLow w h px) (bLow w h qx) := by
  have r0 := rowsOf_rect hl
  have t0 := hpq.rows w h
  have t1 := t0.map (S := R2 R) (f := loS) (g := loS) fun a b q => q.lo hR
  have r1 := rect_lo r0
  have t2 := t1.trP r1
  have r2 := trP_rect r1
  have t3 := t2.map (S := R2 R) (f := loS) (g := loS) fun a b q => q.lo hR
  have r3 := rect_lo r2
  exact (t3.trP r3).flat
theorem R2.down {R S : Int → Int → Prop} (hR : ∀ a b c d, R a b → R c d → R ((a + c).fdiv 2) ((b + d).fdiv 2)) (hS : ∀ a b c d, R a b → R c d → S (a - c) (b - d)) {w h : Nat} {px qx : List Int} (hl : px.length = w * h) (hpq : R2 R px qx) : R2 S (bDown w h px) (bDown w h qx) := by
  have r0 := rowsOf_rect hl
  have t0 := hpq.rows w h
  have t1 := t0.map (S := R2 R) (f := loS) (g := loS) fun a b q => q.lo hR
  have r1 := rect_lo r0
  have t2 := t1.trP r1
  have r2 := trP_rect r1
  have t3 := t2.map (S := R2 S) (f := hiS) (g := hiS) fun a b q => q.hi hS
  have r3 := rect_hi r2
  exact (t3.trP r3).flat
theorem R2.shift (k : Int) (l : List Int) : R2 (fun a b => b = a + k) l (l.map fun a => a + k) := by
  induction l with
  | nil => exact .nil
  | cons a l ih => exact .cons rfl ih
theorem pixA_r2 {R : Int → Int → Prop} {w h : Nat} {px qx : List Int} (hv : RstOk w h px) (hpq : R2 R px qx) (x y : Int) : R (pixA w h px x y) (pixA w h qx x y) := hpq.get 0 0 _ (pix_lt hv x.toNat y.toNat).2
theorem mono_low {w h : Nat} {px qx : List Int} (hl : px.length = w * h) (hpq : R2 (fun a b => a ≤ b) px qx) : R2 (fun a b => a ≤ b) (bLow w h px) (bLow w h qx) :=
  R2.low (fun a b c d h1 h2 => by rw [fdiv2, fdiv2]; omega) hl hpq
theorem R2.refl_in {lo hi : Int} : ∀ {l : List Int}, (∀ x ∈ l, lo ≤ x ∧ x ≤ hi) → R2 (fun a _ => lo ≤ a ∧ a ≤ hi) l l
  | [], _ => .nil
  | a :: l, h => .cons (h a (.head _)) (R2.refl_in fun x hx => h x (.tail _ hx))
theorem R2.all_in {lo hi : Int} {l m : List Int} (h : R2 (fun a _ => lo ≤ a ∧ a ≤ hi) l m) : ∀ x ∈ l, lo ≤ x ∧ x ≤ hi := by
  induction h with
  | nil => intro x hx; simp at hx
  | cons h1 _ ih => intro x hx; rcases List.mem_cons.1 hx with e | e; · rw [e]; exact h1
                    · exact ih x e
theorem in_low {w h : Nat} {px : List Int} {lo hi : Int} (hl : px.length = w * h) (hp : ∀ x ∈ px, lo ≤ x ∧ x ≤ hi) : ∀ x ∈ bLow w h px, lo ≤ x ∧ x ≤ hi :=
  (R2.low (fun a b c d h1 h2 => by rw [fdiv2]; omega) hl (R2.refl_in hp)).all_in
theorem mono_smooth {w h : Nat} {px qx : List Int} (hv : RstOk w h px) (hp : ∀ x ∈ px, 0 ≤ x) (hpq : R2 (fun a b => a ≤ b) px qx) : R2 (fun a b => a ≤ b) (smV w h px) (smV w h qx) := by
  refine R2.same _ fun i _ => ?_
  have p := fun x y => pixA_r2 hv hpq x y
  have h0 := (smS_le (a := 0) (b := 65535) hv (fun x hx => ⟨hp x hx, (hv.2.2.2.2.2 x hx).2⟩) ((i % w : Nat) : Int) ((i / w : Nat) : Int)).1
  have h1 : smS w h px ((i % w : Nat) : Int) ((i / w : Nat) : Int) ≤ smS w h qx ((i % w : Nat) : Int) ((i / w : Nat) : Int) := by
    generalize ((i % w : Nat) : Int) = x at *
    generalize ((i / w : Nat) : Int) = y at *
    have p1 := p (x - 1) (y - 1); have p2 := p x (y - 1); have p3 := p (x + 1) (y - 1)
    have p4 := p (x - 1) y; have p5 := p x y; have p6 := p (x + 1) y
    have p7 := p (x - 1) (y + 1); have p8 := p x (y + 1); have p9 := p (x + 1) (y + 1)
    unfold smS; omega
  unfold smP
  rw [td16 (by omega), td16 (by omega)]; omega
end Go.Fid
set_option linter.unusedVariables false
set_option linter.unusedSimpArgs false
namespace Go.Fid
section
variable {P : Program} {S : SL} {B : BS} {o : Oper} {x y : Operand} {k : Nat} {T : TypeId}
end
section
variable {P : Program} {o : Oper}
end
theorem clrn_nil (k j : Nat) : Clr k [(j, none)] := clr_none (clr_nil k)
theorem clrn_hide {k j : Nat} {c : Option (List SV)} {bs : BS} (h : Clr k ((j, none) :: bs)) : Clr k ((j, none) :: (j, c) :: bs) := fun i x hi hb => h i x hi (by
  rw [bget_cons] at hb ⊢
  split at hb
  · cases hb
  · rename_i hne; rw [bget_cons, if_neg hne] at hb; rw [if_neg hne]; exact hb)
theorem clrn_at {k j q : Nat} {c : Option (List SV)} {bs : BS} (hc : ∀ x, q ≠ k → c = some x → namesAny k x = false) (h : Clr k ((j, none) :: bs)) : Clr k ((j, none) :: (q, c) :: bs) := fun i x hi hb => by
  rw [bget_cons] at hb
  split at hb
  · cases hb
  · rename_i hne
    rw [bget_cons] at hb
    split at hb
    · rename_i hq; exact hc x (fun e => hi (hq.symm.trans e)) hb
    · exact h i x hi (by rw [bget_cons, if_neg hne]; exact hb)
theorem clrn_self {k j : Nat} {x : Option (List SV)} {bs : BS} (h : Clr k ((j, none) :: bs)) : Clr k ((j, none) :: (k, x) :: bs) := clrn_at (fun _ e _ => absurd rfl e) h
theorem clrn_none {k j q : Nat} {bs : BS} (h : Clr k ((j, none) :: bs)) : Clr k ((j, none) :: (q, none) :: bs) := clrn_at (fun _ _ e => by cases e) h
theorem clrn_cons {k j q : Nat} {cs : List SV} {bs : BS} (hc : namesAny k cs = false) (h : Clr k ((j, none) :: bs)) : Clr k ((j, none) :: (q, some cs) :: bs) := clrn_at (fun x _ e => by injection e with e; subst e; exact hc) h
theorem clrn_map {α : Type} {k j q : Nat} {f : α → Dat} {l : List α} {bs : BS} (h : Clr k ((j, none) :: bs)) : Clr k ((j, none) :: (q, some (l.map (fun g => SV.d (f g)))) :: bs) := clrn_cons (namesAny_map k f l) h
theorem clrn_d {k j q : Nat} {l : List Dat} {bs : BS} (h : Clr k ((j, none) :: bs)) : Clr k ((j, none) :: (q, some (l.map SV.d)) :: bs) := clrn_cons (namesAny_map k id l) h
theorem clrn_bx {k j q : Nat} {d : Dat} {bs : BS} (h : Clr k ((j, none) :: bs)) : Clr k ((j, none) :: (q, some (bx d)) :: bs) := clrn_d h
end Go.Fid
namespace Go.Proofs.Ytleidgohjckmlaa
open Go.Fid
set_option maxRecDepth 4000
set_option linter.unusedVariables false
set_option linter.unusedSimpArgs false
theorem by81 : bytesB Try.prog 81 = some 4 := by kernel_rfl
theorem cb75 : callB Try.prog 75 = true := by kernel_rfl
theorem cb89 : callB Try.prog 89 = true := by kernel_rfl
theorem cb90 : callB Try.prog 90 = true := by kernel_rfl
theorem cb103 : callB Try.prog 103 = true := by kernel_rfl
theorem cb108 : callB Try.prog 108 = true := by kernel_rfl
theorem el30 : elemB Try.prog 30 = some (81, 1) := by kernel_rfl
theorem in75 : intB Try.prog 75 = some .u64 := by kernel_rfl
theorem in81 : intB Try.prog 81 = some .u32 := by kernel_rfl
theorem sh81 : shapeB Try.prog 81 = some (false, 1) := by kernel_rfl
theorem un75 : (Try.prog.underlying 75).isSome = true := by kernel_rfl
theorem un81 : (Try.prog.underlying 81).isSome = true := by kernel_rfl
theorem ze81 : zeroB Try.prog 81 = some [.int .u32 0] := by kernel_rfl
theorem zo81 : ZOk [.int .u32 0] [.val (.int .u32 0)] := by simp [ZOk, Value.oneCell']
theorem t_at (l : List Nat) (i : Nat) : Takes Try.prog 103 [(.sl 81 1 (List.map enc_u32 l)), (.val (.int .i64 (((i : Nat) : Int))))] (.val (.int .u32 ((((l.getD i 0) : Nat) : Int)))) := by
  refine fn_intro Try.func103 rfl cb103 rfl ?_
  show PWp _ _ _ _ ⟨[(0, (vl 81 1 enc_u32 l)), (1, (vin i))], []⟩
  refine pwp_seq <| kx [] [] (zM <| zZ) ?_
  refine pwp_seq <| pwp_seq <| kx [(8, (vb (decide (((i : Nat) : Int) < ((l.length : Nat) : Int)))))] [] (zM <| zM <| zE (oLm el30) <| zE oLt <| zZ) ?_
  refine pwp_cond rfl (fun h1 => ?_) (fun h1 => ?_)
  · replace h1 := of_decide_eq_true h1
    refine pwp_seq <| kx [(4, (vwn (l.getD i 0)))] [] (zM <| zM <| zE (oXl el30 i (0 : Nat)) <| zE (oC1 sh81) <| zM <| zZ) ?_
    refine pwp_ret ⟨_, (.tmp (d := (.val (.int .u32 ((((l.getD i 0) : Nat) : Int))))) rfl .nil), ?_⟩
    rfl
  · replace h1 := of_decide_eq_false h1
    refine pwp_skip <| pwp_seq <| kx [(4, (vwn 0))] [] (zM <| zZ) ?_
    refine pwp_ret ⟨_, (.tmp (d := (.val (.int .u32 (0)))) rfl .nil), ?_⟩
    rw [show l.getD i 0 = 0 from getD_out (by omega)]; rfl
theorem t_trim (l0 : List Nat) (hd : Dig l0) (hb : l0.length ≤ 17592186044416) : Takes Try.prog 75 [(.sl 81 1 (List.map enc_u32 l0))] (.sl 81 1 (List.map enc_u32 (ofNat (val l0)))) := by
  refine fn_intro Try.func75 rfl cb75 rfl ?_
  show PWp _ _ _ _ ⟨[(0, (vl 81 1 enc_u32 l0))], []⟩
  refine pwp_seq <| kx [] [] (zE (oNl 81 1) <| zZ) ?_
  refine pwp_seq <| pwp_block <| pwp_loop (α := List Nat) (fun l => ⟨[(0, (vl 81 1 enc_u32 l))], []⟩) (fun l => Dig l ∧ val l = val l0 ∧ l.length ≤ l0.length) (fun l => l.length) l0 wk ⟨hd, rfl, Nat.le_refl _⟩ ?_
  rintro l ⟨hl, hv, hle⟩
  refine pwp_seq <| pwp_seq <| kx [(14, (vb (decide (0 < ((l.length : Nat) : Int)) && ((((l.getD (l.length - 1) 0) : Nat) : Int) == 0))))] [] ?_ ?_
  · refine zM <| zE (oLm el30) <| zE oGt <| zE (oV (vb (decide (0 < ((l.length : Nat) : Int)))) (mv_ok (by kernel_rfl))) <| ?_
    rcases hb1 : (decide (0 < ((l.length : Nat) : Int))) with _ | _
    · replace hb1 := of_decide_eq_false hb1
      exact zK <| zK <| zK <| zK <| zK <| zK <| zK <| zE oPf <| zZ
    · replace hb1 := of_decide_eq_true hb1
      exact zM <| zM <| zE (oLm el30) <| zE (oSb (l.length - 1)) <| zE (oXl el30 (l.length - 1) (0 : Nat)) <| zE (oC1 sh81) <| zE oEq <| zE oPa <| zZ
  refine pwp_cond rfl (fun h2 => ?_) (fun h2 => ?_)
  · obtain ⟨hp, _⟩ := trim_cond h2
    refine pwp_skip <| pwp_block <| kx [(0, (vl 81 1 enc_u32 (List.take (l.length - 1) l)))] [] (zM <| zM <| zE (oLm el30) <| zE (oSb (l.length - 1)) <| zE (e_slc (l := 0) (h := (l.length - 1)) (kl := .i64) (kh := .i64) (es' := List.map enc_u32 (List.take (l.length - 1) l)) (by exact rfl) el30 (by exact rfl) (by exact rfl) (by exact rfl) (Nat.zero_le _) (by simp only [List.length_map]; omega) (by rw [List.drop_zero, List.map_take])) <| zM <| zZ) ?_
    exact ⟨(l.take (l.length - 1)), wk, (trim_step hl hv hle h2), (trim_less h2)⟩
  · refine pwp_exit <| pwp_seq <| kx [(2, (vl 81 1 enc_u32 l))] [] (zM <| zM <| zZ) ?_
    refine pwp_ret ⟨_, (.tmp (d := (.sl 81 1 (List.map enc_u32 l))) rfl .nil), ?_⟩
    rw [trim_end hl hv h2]; rfl
theorem t_plus (a b : List Nat) (hda : Dig a) (hdb : Dig b) (hla : a.length ≤ 8796093022208) (hlb : b.length ≤ 8796093022208) : Takes Try.prog 89 [(.sl 81 1 (List.map enc_u32 a)), (.sl 81 1 (List.map enc_u32 b))] (.sl 81 1 (List.map enc_u32 (ofNat (val a + val b)))) := by
  refine fn_intro Try.func89 rfl cb89 rfl ?_
  show PWp _ _ _ _ ⟨[(0, (vl 81 1 enc_u32 a)), (1, (vl 81 1 enc_u32 b))], []⟩
  refine pwp_seq <| kx [] [] (zE (oNl 81 1) <| zZ) ?_
  refine pwp_seq <| kx [(5, (.own 0 81 1 ((max a.length b.length) + 1)))] [(0, some (bm enc_u32 (List.replicate ((max a.length b.length) + 1) 0)))] (zM <| zE (oLm el30) <| zM <| zE (oLm el30) <| zE (oMx (max a.length b.length)) <| zE (oAd ((max a.length b.length) + 1)) <| zN (oMk 0 enc_u32 (0 : Nat) ((max a.length b.length) + 1) ((max a.length b.length) + 1) el30 ze81 zo81 by81) <| zM <| zZ) ?_
  refine pwp_seq <| kx [(6, (vwn 0))] [] (zM <| zZ) ?_
  refine pwp_seq <| pwp_seq <| kx [(17, (vin ((max a.length b.length) + 1))), (18, (vin 0))] [] (zM <| zE (oLo el30) <| zM <| zZ) ?_
  refine pwp_block <| pwp_loop (α := Nat × List Nat × Nat) (fun (i, out, c) => ⟨[(0, (vl 81 1 enc_u32 a)), (1, (vl 81 1 enc_u32 b)), (5, (.own 0 81 1 ((max a.length b.length) + 1))), (6, (vwn c)), (17, (vin ((max a.length b.length) + 1))), (18, (vin i))], [(0, some (bm enc_u32 out))]⟩) (fun (i, out, c) => out.length = max a.length b.length + 1 ∧ Dig out ∧ i ≤ max a.length b.length + 1 ∧ c ≤ 1 ∧ val (out.take i) + pw i * c = val (a.take i) + val (b.take i)) (fun (i, out, c) => max a.length b.length + 1 - i) (0, List.replicate (max a.length b.length + 1) 0, 0) wk ⟨by simp, dig_replicate _, Nat.zero_le _, Nat.zero_le _, by simp [val]⟩ ?_
  rintro ⟨i, out, c⟩ ⟨hlen, hdo, hi, hc, hv⟩
  have hai := hda.getD i
  have hbi := hdb.getD i
  refine pwp_seq <| kx [(19, (vb (decide (((i : Nat) : Int) < ((((max a.length b.length) + 1) : Nat) : Int)))))] [] (zE oLt <| zZ) ?_
  refine pwp_seq <| pwp_cond rfl (fun h1 => ?_) (fun h1 => ?_)
  · replace h1 := of_decide_eq_true h1
    refine pwp_skip <| pwp_seq <| pwp_block <| pwp_seq <| kx [(7, (vin i))] [] (zM <| zM <| zZ) ?_
    refine pwp_seq <| kx [(8, (vwn (((a.getD i 0) + (b.getD i 0)) + c)))] [] (zM <| zM <| zE (oCl (t_at a i)) <| zM <| zM <| zE (oCl (t_at b i)) <| zE (oAd ((a.getD i 0) + (b.getD i 0))) <| zM <| zE (oAd (((a.getD i 0) + (b.getD i 0)) + c)) <| zM <| zZ) ?_
    refine pwp_seq <| kx [(6, (vwn 0))] [] (zM <| zZ) ?_
    refine pwp_seq <| pwp_seq <| kx [(31, (vb (decide (1000000000 ≤ (((((a.getD i 0) + (b.getD i 0)) + c) : Nat) : Int)))))] [] (zM <| zE oGe <| zZ) ?_
    refine pwp_cond rfl (fun h2 => ?_) (fun h2 => ?_)
    · replace h2 := of_decide_eq_true h2
      refine kx [(6, (vwn 1)), (8, (vwn ((((a.getD i 0) + (b.getD i 0)) + c) - 1000000000)))] [] (zM <| zE (oSb ((((a.getD i 0) + (b.getD i 0)) + c) - 1000000000)) <| zM <| zM <| zZ) ?_
      refine kx [] [(0, some (bm enc_u32 (out.set i ((((a.getD i 0) + (b.getD i 0)) + c) - 1000000000))))] (zM <| zM <| zM <| zE (oXo el30 i) <| zT (oSp sh81 i ((((a.getD i 0) + (b.getD i 0)) + c) - 1000000000)) <| zZ) ?_
      refine kx [(18, (vin (i + 1)))] [] (zE (oAd (i + 1)) <| zM <| zZ) ?_
      exact ⟨(i + 1, out.set i (a.getD i 0 + b.getD i 0 + c - 1000000000), 1), wk, (by obtain ⟨q1, q2, q3⟩ := plus_step (s := a.getD i 0 + b.getD i 0 + c - 1000000000) (c' := 1) hlen hdo (by omega) hv (by omega) (by omega); exact ⟨q1, q2, by omega, by omega, q3⟩), (by first | omega | (dsimp only; omega))⟩
    · replace h2 := of_decide_eq_false h2
      refine pwp_skip <| kx [] [(0, some (bm enc_u32 (out.set i (((a.getD i 0) + (b.getD i 0)) + c))))] (zM <| zM <| zM <| zE (oXo el30 i) <| zT (oSp sh81 i (((a.getD i 0) + (b.getD i 0)) + c)) <| zZ) ?_
      refine kx [(18, (vin (i + 1)))] [] (zE (oAd (i + 1)) <| zM <| zZ) ?_
      exact ⟨(i + 1, out.set i (a.getD i 0 + b.getD i 0 + c), 0), wk, (by obtain ⟨q1, q2, q3⟩ := plus_step (s := a.getD i 0 + b.getD i 0 + c) (c' := 0) hlen hdo (by omega) hv (by omega) (by omega); exact ⟨q1, q2, by omega, by omega, q3⟩), (by first | omega | (dsimp only; omega))⟩
  · replace h1 := of_decide_eq_false h1
    have hie : i = max a.length b.length + 1 := by omega
    rw [hie] at hv
    refine pwp_exit <| pwp_seq <| pwp_sim (publish (t := 5) (k := 0) (es := List.map enc_u32 out) rfl rfl (pub_cells _ _ (fun _ => rfl)) (map_len _ _ hlen) (pub_take _ _ (fun _ => rfl) hlen)) ?_
    refine kx [(4, (vl 81 1 enc_u32 (ofNat (val out))))] [] (zM <| zE (oCl (t_trim out (by assumption) (by omega))) <| zM <| zZ) ?_
    refine pwp_ret ⟨_, (.tmp (d := (.sl 81 1 (List.map enc_u32 (ofNat (val out))))) rfl .nil), ?_⟩
    rw [plus_end hda hdb hlen hv]; rfl
theorem t_minus (a b : List Nat) (hda : Dig a) (hdb : Dig b) (hba : val b ≤ val a) (hla : a.length ≤ 8796093022208) : Takes Try.prog 90 [(.sl 81 1 (List.map enc_u32 a)), (.sl 81 1 (List.map enc_u32 b))] (.sl 81 1 (List.map enc_u32 (ofNat (val a - val b)))) := by
  refine fn_intro Try.func90 rfl cb90 rfl ?_
  show PWp _ _ _ _ ⟨[(0, (vl 81 1 enc_u32 a)), (1, (vl 81 1 enc_u32 b))], []⟩
  refine pwp_seq <| kx [] [] (zE (oNl 81 1) <| zZ) ?_
  refine pwp_seq <| kx [(5, (.own 0 81 1 a.length))] [(0, some (bm enc_u32 (List.replicate a.length 0)))] (zM <| zE (oLm el30) <| zN (oMk 0 enc_u32 (0 : Nat) a.length a.length el30 ze81 zo81 by81) <| zM <| zZ) ?_
  refine pwp_seq <| kx [(6, (vwn 0))] [] (zM <| zZ) ?_
  refine pwp_seq <| pwp_seq <| kx [(13, (vin a.length)), (14, (vin 0))] [] (zM <| zE (oLo el30) <| zM <| zZ) ?_
  refine pwp_block <| pwp_loop (α := Nat × List Nat × Nat) (fun (i, out, c) => ⟨[(0, (vl 81 1 enc_u32 a)), (1, (vl 81 1 enc_u32 b)), (5, (.own 0 81 1 a.length)), (6, (vwn c)), (13, (vin a.length)), (14, (vin i))], [(0, some (bm enc_u32 out))]⟩) (fun (i, out, c) => out.length = a.length ∧ Dig out ∧ i ≤ a.length ∧ c ≤ 1 ∧ val (out.take i) + val (b.take i) = val (a.take i) + pw i * c) (fun (i, out, c) => a.length - i) (0, List.replicate a.length 0, 0) wk ⟨by simp, dig_replicate _, Nat.zero_le _, Nat.zero_le _, by simp [val]⟩ ?_
  rintro ⟨i, out, c⟩ ⟨hlen, hdo, hi, hc, hv⟩
  have hai := hda.getD i
  have hbi := hdb.getD i
  refine pwp_seq <| kx [(15, (vb (decide (((i : Nat) : Int) < ((a.length : Nat) : Int)))))] [] (zE oLt <| zZ) ?_
  refine pwp_seq <| pwp_cond rfl (fun h1 => ?_) (fun h1 => ?_)
  · replace h1 := of_decide_eq_true h1
    refine pwp_skip <| pwp_seq <| pwp_block <| pwp_seq <| kx [(7, (vin i))] [] (zM <| zM <| zZ) ?_
    refine pwp_seq <| kx [(8, (vwn ((b.getD i 0) + c)))] [] (zM <| zM <| zE (oCl (t_at b i)) <| zM <| zE (oAd ((b.getD i 0) + c)) <| zM <| zZ) ?_
    refine pwp_seq <| kx [(6, (vwn 0))] [] (zM <| zZ) ?_
    refine pwp_seq <| kx [(27, (vb (decide ((((a.getD i 0) : Nat) : Int) < ((((b.getD i 0) + c) : Nat) : Int)))))] [] (zM <| zM <| zE (oXl el30 i (0 : Nat)) <| zE (oC1 sh81) <| zM <| zE oLt <| zZ) ?_
    refine pwp_cond rfl (fun h2 => ?_) (fun h2 => ?_)
    · replace h2 := of_decide_eq_true h2
      refine kx [(6, (vwn 1))] [(0, some (bm enc_u32 (out.set i (((a.getD i 0) + 1000000000) - ((b.getD i 0) + c)))))] (zM <| zM <| zM <| zM <| zE (oXl el30 i (0 : Nat)) <| zE (oC1 sh81) <| zE (oAd ((a.getD i 0) + 1000000000)) <| zM <| zE (oSb (((a.getD i 0) + 1000000000) - ((b.getD i 0) + c))) <| zE (oXo el30 i) <| zT (oSp sh81 i (((a.getD i 0) + 1000000000) - ((b.getD i 0) + c))) <| zM <| zZ) ?_
      refine kx [(14, (vin (i + 1)))] [] (zE (oAd (i + 1)) <| zM <| zZ) ?_
      exact ⟨(i + 1, out.set i (a.getD i 0 + 1000000000 - (b.getD i 0 + c)), 1), wk, (by obtain ⟨q1, q2, q3⟩ := minus_step (s := a.getD i 0 + 1000000000 - (b.getD i 0 + c)) (c' := 1) hlen hdo (by omega) hv (by omega) (by omega); exact ⟨q1, q2, by omega, by omega, q3⟩), (by first | omega | (dsimp only; omega))⟩
    · replace h2 := of_decide_eq_false h2
      refine kx [] [(0, some (bm enc_u32 (out.set i ((a.getD i 0) - ((b.getD i 0) + c)))))] (zM <| zM <| zM <| zM <| zE (oXl el30 i (0 : Nat)) <| zE (oC1 sh81) <| zM <| zE (oSb ((a.getD i 0) - ((b.getD i 0) + c))) <| zE (oXo el30 i) <| zT (oSp sh81 i ((a.getD i 0) - ((b.getD i 0) + c))) <| zZ) ?_
      refine kx [(14, (vin (i + 1)))] [] (zE (oAd (i + 1)) <| zM <| zZ) ?_
      exact ⟨(i + 1, out.set i (a.getD i 0 - (b.getD i 0 + c)), 0), wk, (by obtain ⟨q1, q2, q3⟩ := minus_step (s := a.getD i 0 - (b.getD i 0 + c)) (c' := 0) hlen hdo (by omega) hv (by omega) (by omega); exact ⟨q1, q2, by omega, by omega, q3⟩), (by first | omega | (dsimp only; omega))⟩
  · replace h1 := of_decide_eq_false h1
    have hie : i = a.length := by omega
    rw [hie] at hv
    refine pwp_exit <| pwp_seq <| pwp_sim (publish (t := 5) (k := 0) (es := List.map enc_u32 out) rfl rfl (pub_cells _ _ (fun _ => rfl)) (map_len _ _ hlen) (pub_take _ _ (fun _ => rfl) hlen)) ?_
    refine kx [(4, (vl 81 1 enc_u32 (ofNat (val out))))] [] (zM <| zE (oCl (t_trim out (by assumption) (by omega))) <| zM <| zZ) ?_
    refine pwp_ret ⟨_, (.tmp (d := (.sl 81 1 (List.map enc_u32 (ofNat (val out))))) rfl .nil), ?_⟩
    rw [minus_end hda hdb hdo hba hlen hv]; rfl
theorem t_times (a b : List Nat) (hda : Dig a) (hdb : Dig b) (hla : a.length ≤ 4398046511104) (hlb : b.length ≤ 4398046511104) : Takes Try.prog 108 [(.sl 81 1 (List.map enc_u32 a)), (.sl 81 1 (List.map enc_u32 b))] (.sl 81 1 (List.map enc_u32 (ofNat (val a * val b)))) := by
  refine fn_intro Try.func108 rfl cb108 rfl ?_
  show PWp _ _ _ _ ⟨[(0, (vl 81 1 enc_u32 a)), (1, (vl 81 1 enc_u32 b))], []⟩
  refine pwp_seq <| kx [] [] (zE (oNl 81 1) <| zZ) ?_
  refine pwp_seq <| kx [(5, (.own 0 81 1 (a.length + b.length)))] [(0, some (bm enc_u32 (List.replicate (a.length + b.length) 0)))] (zM <| zE (oLm el30) <| zM <| zE (oLm el30) <| zE (oAd (a.length + b.length)) <| zN (oMk 0 enc_u32 (0 : Nat) (a.length + b.length) (a.length + b.length) el30 ze81 zo81 by81) <| zM <| zZ) ?_
  refine pwp_seq <| pwp_seq <| kx [(18, (vl 81 1 enc_u32 a)), (19, (vin a.length)), (20, (vin 0))] [] (zM <| zE (oLm el30) <| zM <| zZ) ?_
  refine pwp_block <| pwp_loop (α := Nat × List Nat) (fun (i, out) => ⟨[(1, (vl 81 1 enc_u32 b)), (5, (.own 0 81 1 (a.length + b.length))), (18, (vl 81 1 enc_u32 a)), (19, (vin a.length)), (20, (vin i))], [(0, some (bm enc_u32 out))]⟩) (fun (i, out) => out.length = a.length + b.length ∧ Dig out ∧ i ≤ a.length ∧ (∀ k, i + b.length ≤ k → out.getD k 0 = 0) ∧ val out = val (a.take i) * val b) (fun (i, out) => a.length - i) (0, List.replicate (a.length + b.length) 0) wk ⟨by simp, dig_replicate _, Nat.zero_le _, fun k _ => getD_replicate _ k, by simp [val, val_replicate]⟩ ?_
  rintro ⟨i, out⟩ ⟨hlen, hdo, hi, hz, hv⟩
  have hai := hda.getD i
  refine pwp_seq <| kx [(21, (vb (decide (((i : Nat) : Int) < ((a.length : Nat) : Int)))))] [] (zE oLt <| zZ) ?_
  refine pwp_seq <| pwp_cond rfl (fun h1 => ?_) (fun h1 => ?_)
  · replace h1 := of_decide_eq_true h1
    refine pwp_skip <| pwp_seq <| pwp_block <| pwp_seq <| kx [(6, (vin i)), (7, (vwn (a.getD i 0)))] [] (zM <| zE (oXl el30 i (0 : Nat)) <| zE (oC1 sh81) <| zM <| zM <| zZ) ?_
    refine pwp_seq <| kx [(8, (vqn 0))] [] (zM <| zZ) ?_
    refine pwp_seq <| pwp_seq <| kx [(25, (vl 81 1 enc_u32 b)), (26, (vin b.length)), (27, (vin 0))] [] (zM <| zE (oLm el30) <| zM <| zZ) ?_
    refine pwp_block <| pwp_loop (α := Nat × List Nat × Nat) (fun (j, o2, c) => ⟨[(1, (vl 81 1 enc_u32 b)), (5, (.own 0 81 1 (a.length + b.length))), (6, (vin i)), (7, (vwn (a.getD i 0))), (8, (vqn c)), (18, (vl 81 1 enc_u32 a)), (19, (vin a.length)), (20, (vin i)), (25, (vl 81 1 enc_u32 b)), (26, (vin b.length)), (27, (vin j))], [(0, some (bm enc_u32 o2))]⟩) (fun (j, o2, c) => o2.length = a.length + b.length ∧ Dig o2 ∧ j ≤ b.length ∧ c < 1000000000 ∧ (∀ k, i + b.length ≤ k → o2.getD k 0 = 0) ∧ val o2 + pw (i + j) * c = val (a.take i) * val b + pw i * (a.getD i 0 * val (b.take j))) (fun (j, o2, c) => b.length - j) (0, out, 0) wk ⟨hlen, hdo, Nat.zero_le _, by decide, hz, by simp [val, hv]⟩ ?_
    rintro ⟨j, o2, c⟩ ⟨hlen2, hdo2, hj, hc, hz2, hv2⟩
    have hbj := hdb.getD j
    have hoj := hdo2.getD (i + j)
    have hpq : a.getD i 0 * b.getD j 0 ≤ 999999999 * 999999999 := Nat.mul_le_mul (by omega) (by omega)
    refine pwp_seq <| kx [(28, (vb (decide (((j : Nat) : Int) < ((b.length : Nat) : Int)))))] [] (zE oLt <| zZ) ?_
    refine pwp_seq <| pwp_cond rfl (fun h2 => ?_) (fun h2 => ?_)
    · replace h2 := of_decide_eq_true h2
      refine pwp_skip <| pwp_seq <| pwp_block <| pwp_seq <| kx [(9, (vin j)), (10, (vwn (b.getD j 0)))] [] (zM <| zE (oXl el30 j (0 : Nat)) <| zE (oC1 sh81) <| zM <| zM <| zZ) ?_
      refine pwp_seq <| kx [(11, (vqn (((o2.getD (i + j) 0) + ((a.getD i 0) * (b.getD j 0))) + c)))] [] (zM <| zM <| zM <| zE (oAd (i + j)) <| zE (oXo el30 (i + j)) <| zR (oLp sh81 (i + j) (0 : Nat)) <| zE (oCv un81 in75 (o2.getD (i + j) 0)) <| zM <| zE (oCv un81 in75 (a.getD i 0)) <| zM <| zE (oCv un81 in75 (b.getD j 0)) <| zE (oMl ((a.getD i 0) * (b.getD j 0))) <| zE (oAd ((o2.getD (i + j) 0) + ((a.getD i 0) * (b.getD j 0)))) <| zM <| zE (oAd (((o2.getD (i + j) 0) + ((a.getD i 0) * (b.getD j 0))) + c)) <| zM <| zZ) ?_
      refine kx [(8, (vqn ((((o2.getD (i + j) 0) + ((a.getD i 0) * (b.getD j 0))) + c) / 1000000000)))] [(0, some (bm enc_u32 (o2.set (i + j) ((((o2.getD (i + j) 0) + ((a.getD i 0) * (b.getD j 0))) + c) % 1000000000))))] (zM <| zM <| zM <| zE (oAd (i + j)) <| zM <| zE (oRe ((((o2.getD (i + j) 0) + ((a.getD i 0) * (b.getD j 0))) + c) % 1000000000)) <| zE (oCv un75 in81 ((((o2.getD (i + j) 0) + ((a.getD i 0) * (b.getD j 0))) + c) % 1000000000)) <| zM <| zE (oQu ((((o2.getD (i + j) 0) + ((a.getD i 0) * (b.getD j 0))) + c) / 1000000000)) <| zE (oXo el30 (i + j)) <| zT (oSp sh81 (i + j) ((((o2.getD (i + j) 0) + ((a.getD i 0) * (b.getD j 0))) + c) % 1000000000)) <| zM <| zZ) ?_
      refine kx [(27, (vin (j + 1)))] [] (zE (oAd (j + 1)) <| zM <| zZ) ?_
      exact ⟨(j + 1, o2.set (i + j) ((o2.getD (i + j) 0 + a.getD i 0 * b.getD j 0 + c) % 1000000000), (o2.getD (i + j) 0 + a.getD i 0 * b.getD j 0 + c) / 1000000000), wk, (by obtain ⟨q1, q2⟩ := times_step (by omega) hdo2 hv2 rfl (val_take_succ b j); exact ⟨by simpa using hlen2, q1, by omega, by omega, zero_set (by omega) hz2, q2⟩), (by first | omega | (dsimp only; omega))⟩
    · replace h2 := of_decide_eq_false h2
      have hje : j = b.length := by omega
      rw [hje] at hv2
      refine pwp_exit <| kx [] [(0, some (bm enc_u32 (o2.set (i + b.length) c)))] (zM <| zM <| zM <| zE (oLm el30) <| zE (oAd (i + b.length)) <| zM <| zE (oCv un75 in81 c) <| zE (oXo el30 (i + b.length)) <| zT (oSp sh81 (i + b.length) c) <| zZ) ?_
      refine kx [(20, (vin (i + 1)))] [] (zE (oAd (i + 1)) <| zM <| zZ) ?_
      exact ⟨(i + 1, o2.set (i + b.length) c), wk, (by obtain ⟨q1, q2, q3, q4⟩ := times_row hdo2 (by omega) hlen2 hz2 hc hv2; exact ⟨q1, q2, by omega, q3, q4⟩), (by first | omega | (dsimp only; omega))⟩
  · replace h1 := of_decide_eq_false h1
    have hie : i = a.length := by omega
    rw [hie, List.take_length] at hv
    refine pwp_exit <| pwp_seq <| pwp_sim (publish (t := 5) (k := 0) (es := List.map enc_u32 out) rfl rfl (pub_cells _ _ (fun _ => rfl)) (map_len _ _ hlen) (pub_take _ _ (fun _ => rfl) hlen)) ?_
    refine kx [(4, (vl 81 1 enc_u32 (ofNat (val out))))] [] (zM <| zE (oCl (t_trim out (by assumption) (by omega))) <| zM <| zZ) ?_
    refine pwp_ret ⟨_, (.tmp (d := (.sl 81 1 (List.map enc_u32 (ofNat (val out))))) rfl .nil), ?_⟩
    rw [hv]; rfl
end Go.Proofs.Ytleidgohjckmlaa
namespace Go.Proofs.Ytleidgohjckmlaa
open Go.RowKit Go.Shelf
attribute [local go_sem] Oper.semAt_some
set_option maxRecDepth 100000 in
set_option maxHeartbeats 2000000 in
theorem back1 (N l Bs b off len cap : Nat) (u : Nat → Value) (hlen : (len : Int) ≤ 9223372036854775807) (J : Nat → World → Prop) (Jx : World → Prop)
    (hc : ∀ j W, J j W → W.cell? ⟨Bs, 0, none⟩ = some (.slice (some ⟨b, off, none⟩) len cap) ∧ ∀ i, i < len → W.cell? ⟨b, off + i, none⟩ = some (u i))
    (hY : ∀ j W, J j W → j < len → YieldAt Fence.wide N Try.prog l #[.int .i64 ((len : Int) - 1 - (j : Int)), u (len - 1 - j)] W fun e W' =>
      (e = .returned (.bool true) ∧ J (j + 1) W') ∨ (e = .returned (.bool false) ∧ Jx W'))
    (W : World) (h0 : J 0 W) :
    CallsIn Fence.wide (N + 1) Try.prog 105 #[.func (.yield l) #[] #[], .pointer (some ⟨Bs, 0, none⟩)] W fun e W' => (∃ v, e = .returned v) ∧ (J len W' ∨ Jx W') := by
  refine callsIn_of_wp Try.func105 rfl trivial ?_ rfl
  simp only [Try.ntmps105, List.size_toArray, List.length_cons, List.length_nil, Nat.reduceAdd, Nat.reduceSub, Array.replicate_succ, Array.replicate_zero, List.push_toArray, List.append_toArray, List.nil_append, List.cons_append]
  have hBs := (hc 0 W h0).1
  gi_wp2
  gi_loopw [3] (fun i wr => ∃ j : Nat, j ≤ len ∧ i = .int .i64 ((len : Int) - 1 - (j : Int)) ∧ J j wr)
    (fun i _ => (intOf i + 1).toNat)
  case atStart => exact ⟨0, Nat.zero_le _, by simp, h0⟩
  case round =>
    obtain ⟨j, hk, rfl, hJs⟩ := hrel
    have hBj := (hc j wr hJs).1
    by_cases hlt : j < len
    · have hcj := (hc j wr hJs).2 (len - 1 - j) (by omega)
      obtain ⟨fn, tmps, assign, body, hy, hR⟩ := hY j wr hJs hlt
      gi_wp2
      refine hR.mono ?_
      rintro e W3 (⟨rfl, hJ3⟩ | ⟨rfl, hJx3⟩)
      · gi_wp2
        go_roundw
        case rel => exact ⟨j + 1, by omega, by simp; omega, hJ3⟩
        case measure => simp [intOf]; omega
      · gi_wp2
        refine bodyPost_ret (results_none rfl _ _ _) rfl ?_
        exact ⟨⟨_, rfl⟩, .inr hJx3⟩
    · obtain rfl : j = len := by omega
      gi_wp2
      go_end0
      exact ⟨⟨_, rfl⟩, .inl hJs⟩
set_option maxRecDepth 100000 in
set_option maxHeartbeats 2000000 in
theorem back1_nil (N l Bs cap : Nat) (ao : Option Addr) (J : World → Prop) (W : World) (hBs : W.cell? ⟨Bs, 0, none⟩ = some (.slice ao 0 cap)) (h0 : J W) :
    CallsIn Fence.wide (N + 1) Try.prog 105 #[.func (.yield l) #[] #[], .pointer (some ⟨Bs, 0, none⟩)] W fun e W' => (∃ v, e = .returned v) ∧ J W' := by
  refine callsIn_of_wp Try.func105 rfl trivial ?_ rfl
  simp only [Try.ntmps105, List.size_toArray, List.length_cons, List.length_nil, Nat.reduceAdd, Nat.reduceSub, Array.replicate_succ, Array.replicate_zero, List.push_toArray, List.append_toArray, List.nil_append, List.cons_append]
  gi_wp2
  gi_loopw [3] (fun i wr => i = .int .i64 (-1) ∧ J wr) (fun _ _ => 0)
  case atStart => exact ⟨by simp, h0⟩
  case round =>
    obtain ⟨rfl, hJs⟩ := hrel
    gi_wp2
    go_end0
    exact ⟨⟨_, rfl⟩, hJs⟩
set_option maxHeartbeats 1000000 in
theorem back_in (a : Option Addr) (len cap : Nat) (w : World) :
    Calls Try.prog 99 #[.slice a len cap] w fun e w' => e = .returned (.func (.func 105) #[] #[.pointer (some ⟨w.heap.size, 0, none⟩)]) ∧ w' = w.alloc (.cells #[.slice a len cap] 30) := by
  refine (callsIn_wide (n := 1)).1 (callsIn_of_wp Try.func99 rfl trivial ?_ rfl)
  simp only [Try.ntmps99, List.size_toArray, List.length_cons, List.length_nil, Nat.reduceAdd, Nat.reduceSub, Array.replicate_succ, Array.replicate_zero, List.push_toArray, List.append_toArray, List.nil_append, List.cons_append]
  gi_wp2
  go_ret
  exact ⟨rfl, rfl⟩
theorem backs : Go.Fid.Backs Try.prog 99 105 30 := ⟨back_in, back1_nil, fun N l c b off len cap u hlen J Jx hc hY W h0 => back1 N l c b off len cap u hlen J Jx hc hY W h0, enters_of Try.func105 (by kernel_rfl) rfl⟩
end Go.Proofs.Ytleidgohjckmlaa
