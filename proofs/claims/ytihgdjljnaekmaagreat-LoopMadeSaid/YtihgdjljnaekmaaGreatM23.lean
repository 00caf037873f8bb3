/- Part 23 of a proof: rules, plain facts, and functions walked. -/
import Derived.Test.YtihgdjljnaekmaaGreatM22
import Derived.Test.YtihgdjljnaekmaaGreatM10
import Derived.Test.YtihgdjljnaekmaaGreatM21
import Derived.Test.YtihgdjljnaekmaaGreatM11
set_option linter.unusedVariables false
set_option linter.unusedSimpArgs false
namespace Go.Fid
inductive R2 {α β : Type} (R : α → β → Prop) : List α → List β → Prop where
  | nil : R2 R [] []
  | cons {a : α} {b : β} {l : List α} {m : List β} : R a b → R2 R l m → R2 R (a :: l) (b :: m)
theorem R2.length {α β : Type} {R : α → β → Prop} {l : List α} {m : List β} (h : R2 R l m) : l.length = m.length := by
  induction h with
  | nil => rfl
  | cons _ _ ih => simp [ih]
theorem R2.get {α β : Type} {R : α → β → Prop} {l : List α} {m : List β} (h : R2 R l m) (d : α) (e : β) : ∀ i, i < l.length → R (l.getD i d) (m.getD i e) := by
  induction h with
  | nil => intro i hi; exact absurd hi (Nat.not_lt_zero _)
  | cons h1 _ ih =>
    intro i hi
    cases i with
    | zero => exact h1
    | succ i => simpa using ih i (by simpa using hi)
theorem R2.of {α β : Type} {R : α → β → Prop} (d : α) (e : β) : ∀ {l : List α} {m : List β}, l.length = m.length → (∀ i, i < l.length → R (l.getD i d) (m.getD i e)) → R2 R l m
  | [], [], _, _ => .nil
  | [], _ :: _, h, _ => by simp at h
  | _ :: _, [], h, _ => by simp at h
  | a :: l, b :: m, h, k => .cons (k 0 (by simp)) (R2.of d e (by simpa using h) fun i hi => by simpa using k (i + 1) (by simpa using hi))
theorem R2.map {α β γ δ : Type} {R : α → β → Prop} {S : γ → δ → Prop} {f : α → γ} {g : β → δ} {l : List α} {m : List β} (h : R2 R l m) (hf : ∀ a b, R a b → S (f a) (g b)) : R2 S (l.map f) (m.map g) := by
  induction h with
  | nil => exact .nil
  | cons h1 _ ih => exact .cons (hf _ _ h1) ih
theorem R2.same {α γ δ : Type} {S : γ → δ → Prop} {f : α → γ} {g : α → δ} (l : List α) (h : ∀ a ∈ l, S (f a) (g a)) : R2 S (l.map f) (l.map g) := by
  induction l with
  | nil => exact .nil
  | cons a l ih => exact .cons (h a (.head _)) (ih fun b hb => h b (.tail _ hb))
theorem R2.app {α β : Type} {R : α → β → Prop} {l l' : List α} {m m' : List β} (h : R2 R l m) (h' : R2 R l' m') : R2 R (l ++ l') (m ++ m') := by
  induction h with
  | nil => exact h'
  | cons h1 _ ih => exact .cons h1 ih
theorem R2.flat {α β : Type} {R : α → β → Prop} {T : List (List α)} {U : List (List β)} (h : R2 (R2 R) T U) : R2 R T.flatten U.flatten := by
  induction h with
  | nil => exact .nil
  | cons h1 _ ih => exact h1.app ih
theorem R2.take {α β : Type} {R : α → β → Prop} {l : List α} {m : List β} (h : R2 R l m) : ∀ n, R2 R (l.take n) (m.take n) := by
  induction h with
  | nil => intro n; simp; exact .nil
  | cons h1 _ ih =>
    intro n
    cases n with
    | zero => exact .nil
    | succ n => exact .cons h1 (ih n)
theorem R2.drop {α β : Type} {R : α → β → Prop} {l : List α} {m : List β} (h : R2 R l m) : ∀ n, R2 R (l.drop n) (m.drop n) := by
  induction h with
  | nil => intro n; simp; exact .nil
  | cons h1 h2 ih =>
    intro n
    cases n with
    | zero => exact .cons h1 h2
    | succ n => exact ih n
theorem R2.rows {R : Int → Int → Prop} {l m : List Int} (h : R2 R l m) (w n : Nat) : R2 (R2 R) (rowsOf w n l) (rowsOf w n m) := R2.same _ fun y _ => (h.drop _).take _
theorem R2.lo {R : Int → Int → Prop} (hR : ∀ a b c d, R a b → R c d → R ((a + c).fdiv 2) ((b + d).fdiv 2)) : ∀ {l m : List Int}, R2 R l m → R2 R (loS l) (loS m)
  | [], _, .nil => .nil
  | [_], _, .cons h1 .nil => .cons h1 .nil
  | _ :: _ :: _, _, .cons h1 (.cons h2 h3) => .cons (hR _ _ _ _ h1 h2) (R2.lo hR h3)
theorem R2.hi {R S : Int → Int → Prop} (hR : ∀ a b c d, R a b → R c d → S (a - c) (b - d)) : ∀ {l m : List Int}, R2 R l m → R2 S (hiS l) (hiS m)
  | [], _, .nil => .nil
  | [_], _, .cons h1 .nil => .nil
  | _ :: _ :: _, _, .cons h1 (.cons h2 h3) => .cons (hR _ _ _ _ h1 h2) (R2.hi hR h3)
theorem R2.col {R : Int → Int → Prop} {w j : Nat} (hj : j < w) : ∀ {T U : List (List Int)}, R2 (R2 R) T U → Rect w T → R2 R (T.map fun r => r.getD j 0) (U.map fun r => r.getD j 0)
  | _, _, .nil, _ => .nil
  | _, _, .cons h1 h2, hT => .cons (h1.get 0 0 j (by rw [hT _ (.head _)]; exact hj)) (R2.col hj h2 fun r hr => hT r (.tail _ hr))
theorem R2.tr {R : Int → Int → Prop} {w : Nat} {T U : List (List Int)} (h : R2 (R2 R) T U) (hT : Rect w T) : R2 (R2 R) (Go.Fid.tr w T) (Go.Fid.tr w U) := R2.same _ fun j hj => R2.col (List.mem_range.1 hj) h hT
theorem R2.rect {R : Int → Int → Prop} {w : Nat} : ∀ {T U : List (List Int)}, R2 (R2 R) T U → Rect w T → Rect w U
  | _, _, .nil, _ => fun r hr => by simp at hr
  | _, _, .cons h1 h2, hT => fun r hr => by
    rcases List.mem_cons.1 hr with e | e
    · rw [e, ← h1.length]; exact hT _ (.head _)
    · exact R2.rect h2 (fun r hr => hT r (.tail _ hr)) r e
theorem R2.trP {R : Int → Int → Prop} {w : Nat} {T U : List (List Int)} (h : R2 (R2 R) T U) (hT : Rect w T) : R2 (R2 R) (Go.Fid.trP T) (Go.Fid.trP U) := by
  by_cases h0 : 0 < T.length
  · rw [trP_eq hT (ne_len h0), trP_eq (h.rect hT) (ne_len (by rw [← h.length]; exact h0))]
    exact h.tr hT
  · have e1 := List.eq_nil_of_length_eq_zero (show T.length = 0 by omega)
    have e2 := List.eq_nil_of_length_eq_zero (show U.length = 0 by have := h.length; omega)
    rw [e1, e2]; exact .nil
theorem trP_rect {w : Nat} {T : List (List Int)} (hT : Rect w T) : Rect T.length (Go.Fid.trP T) := by
  by_cases h0 : 0 < T.length
  · rw [trP_eq hT (ne_len h0)]; exact tr_rect _ _
  · rw [List.eq_nil_of_length_eq_zero (show T.length = 0 by omega)]
    intro r hr; simp [Go.Fid.trP, Go.Fid.tr] at hr
theorem R2.low {R : Int → Int → Prop} (hR : ∀ a b c d, R a b → R c d → R ((a + c).fdiv 2) ((b + d).fdiv 2)) {w h : Nat} {px qx : List Int} (hl : px.length = w * h) (hpq : R2 R px qx) : R2 R (bLow w h px) (bLow w h qx) := by
  have r0 := rowsOf_rect hl
  have t0 := hpq.rows w h
  have t1 := t0.map (S := R2 R) (f := loS) (g := loS) fun a b q => q.lo hR
  have r1 := rect_lo r0
  have t2 := t1.trP r1
  have r2 := trP_rect r1
  have t3 := t2.map (S := R2 R) (f := loS) (g := loS) fun a b q => q.lo hR
  have r3 := rect_lo r2
  exact (t3.trP r3).flat
end Go.Fid
set_option linter.unusedVariables false
set_option linter.unusedSimpArgs false
namespace Go.Fid
open Go.RowKit (Below)
section
variable {P : Program} {n : Fr} {ops : Array Oper} {K : SL → BS → Prop} {S S0 S1 : SL} {B B0 B1 : BS} {l : List Oper} {o : Oper} {D : SL}
theorem zOh (k E s : Nat) (r : SK P n ops K ((dO o, .own k E s 0) :: S) ((k, some []) :: B) l) (h : nilK o = true := by kernel_rfl) (g : goK n ops S o = true := by kernel_rfl) (h1 : (S.all fun p => !p.2.names k) = true := by kernel_rfl)
    (h2 : FrB k B := by repeat first | exact frb_nil _ | refine frb_map rfl ?_ | refine frb_d rfl ?_ | refine frb_cs rfl rfl ?_ | refine frb_none rfl ?_) : SK P n ops K S B (o :: l) := zO k E s r h g (freshB_of h1 h2)
end
end Go.Fid
set_option linter.unusedVariables false
set_option linter.unusedSimpArgs false
namespace Go.Fid
section
variable {P : Program} {S : SL} {B : BS} {o : Oper} {x y : Operand} {k : Nat} {T : TypeId}
end
section
variable {P : Program} {o : Oper}
theorem oQd {S : Nat → SV} {z : SV} (d d2 : Dat) (h : EOk P o S [] z) (e : d = d2) (e0 : z = .d d := by kernel_rfl) : EOk P o S [] (.d d2) := e ▸ e0 ▸ h
end
end Go.Fid
set_option linter.unusedVariables false
set_option linter.unusedSimpArgs false
namespace Go.Fid
theorem den_pos (u : Rat) : ((u.den : Nat) : Int) ≠ 0 := by have := u.den_pos; omega
end Go.Fid
namespace Go.Proofs.YtihgdjljnaekmaaGreat
open Go.Fid
set_option maxRecDepth 4000
set_option linter.unusedVariables false
set_option linter.unusedSimpArgs false
theorem cb105 : callB Tryz.prog 105 = true := by kernel_rfl
theorem cb148 : callB Tryz.prog 148 = true := by kernel_rfl
theorem f_counted (x : RInt) (a : Int) (hx : IOk x a 68719476736) : Takes Tryz.prog 148 [(encI x)] (encI (ofZ a)) := by
  refine fn_intro Tryz.func148 rfl cb148 rfl ?_
  show PWp _ _ _ _ ⟨[(0, (.d (encI x)))], []⟩
  refine pwp_seq <| kx [(1, (.ref 0 0)), (2, (.ref 1 0))] [(0, some (bx (encI x))), (1, some (bx (encI (RInt.mk false []))))] (zN (oBx 0) <| zN (oAl 1 ze49 zo49) <| zZ) ?_
  refine pwp_seq <| pwp_seq <| kx [(4, (vb (validI x)))] [] (zR (oLa sh49) <| zE (oCl (t_valid x (Nat.le_trans hx.l (by decide)))) <| zZ) ?_
  refine pwp_cond (b := (validI x)) rfl (fun h1 => ?_) (fun h1 => ?_)
  · refine pwp_seq <| kx [] [(1, some (bx (encI x)))] (zR (oLa sh49) <| zT (oSt sh49) <| zZ) ?_
    refine pwp_ret ⟨_, (res_a (cs := (bx (encI x))) (d := (encI x)) rfl rfl sh49 rfl rfl .nil), ?_⟩
    rw [← hx.v, ofZ_toZ h1]; rfl
  · refine pwp_skip <| pwp_seq <| kx [] [(1, some (bx (encI (ofZ 0))))] (zE (oCl (t_of 0 (by decide) (by decide))) <| zT (oSt sh49) <| zZ) ?_
    refine pwp_ret ⟨_, (res_a (cs := (bx (encI (ofZ 0)))) (d := (encI (ofZ 0))) rfl rfl sh49 rfl rfl .nil), ?_⟩
    rw [← hx.v, toZ_bad h1, ofZ_zero]; rfl
theorem f_newO (num : RInt) (a : Int) (hnum : IOk num a 68719476736) (den : RInt) (b : Int) (hden : IOk den b 68719476736) (hb : b ≠ 0) : Takes Tryz.prog 105 [(encI num), (encI den)] (.tup [(encR (ofQ (Rat.divInt a b))), (.val (.int .i64 (0)))]) := by
  refine fn_intro Tryz.func105 rfl cb105 rfl ?_
  show PWp _ _ _ _ ⟨[(0, (.d (encI num))), (1, (.d (encI den)))], []⟩
  refine pwp_seq <| kx [(2, (.ref 0 0)), (3, (.ref 1 0)), (4, (.ref 2 0))] [(0, some (bx (encI num))), (1, some (bx (encI den))), (2, some (bx (encR (RRat.mk (RInt.mk false []) (RInt.mk false [])))))] (zN (oBx 0) <| zN (oBx 1) <| zN (oAl 2 ze51 zo51) <| zM <| zZ) ?_
  refine pwp_seq <| kd [] [(0, some (bx (encI (ofZ a)))), (1, some (bx (encI (ofZ b))))] mo (wR (oLa sh49) <| wE (oCl (f_counted num a hnum)) <| wR (oLa sh49) <| wE (oCl (f_counted den b hden)) <| wT (oSt sh49) <| wT (oSt sh49) <| wZ) ?_
  refine pwp_seq <| pwp_seq <| kx [(12, (vb false))] [] (zR (oLa sh49) <| zE (oCl (s_sign (iok_of (IOk.ln hden)) (by decide))) <| zE (oBk false oEq (by exact beq_eq_false_iff_ne.2 (signI_ne hb))) <| zZ) ?_
  refine pwp_cond (b := false) (by kernel_rfl) (fun h => by cases h) (fun _ => ?_)
  refine pwp_skip <| pwp_seq <| kx [(5, (vin 0))] [(2, some (bx (encR (ofQ (Rat.divInt a b)))))] (zR (oLa sh49) <| zR (oLa sh49) <| zE (oCl (f_reduced (ofZ a) (ofZ b) a b (iok_of (IOk.ln hnum)) (iok_of (IOk.ln hden)) (by assumption))) <| zT (oSt sh51) <| zM <| zZ) ?_
  refine pwp_ret ⟨_, (res_a (cs := (bx (encR (ofQ (Rat.divInt a b))))) (d := (encR (ofQ (Rat.divInt a b)))) rfl rfl sh51 rfl rfl (.tmp (d := (.val (.int .i64 (0)))) rfl .nil)), ?_⟩
  rfl
theorem g_newO (num : RInt) (a : Int) (hnum : IOk num a 68719476736) (den : RInt) (b : Int) (hden : IOk den b 68719476736) (hb : b ≠ 0) : Takes Tryz.prog 122 [(encI num), (encI den)] (.tup [(encR (ofQ (Rat.divInt a b))), (.val (.int .i64 (0)))]) := by
  refine fn_intro Tryz.func122 rfl cb122 rfl ?_
  show PWp _ _ _ _ ⟨[(0, (.d (encI num))), (1, (.d (encI den)))], []⟩
  refine pwp_seq <| kx [(2, (.ref 0 0)), (3, (.ref 1 0)), (4, (.ref 2 0))] [(0, some (bx (encI num))), (1, some (bx (encI den))), (2, some (bx (encR (RRat.mk (RInt.mk false []) (RInt.mk false [])))))] (zN (oBx 0) <| zN (oBx 1) <| zN (oAl 2 ze51 zo51) <| zM <| zZ) ?_
  refine pwp_seq <| pwp_seq <| kx [(8, (vb false))] [] (zR (oLa sh49) <| zE (oCl (rs_sign hden (by decide))) <| zE (oBk false oEq (by exact beq_eq_false_iff_ne.2 (signI_ne hb))) <| zZ) ?_
  refine pwp_cond (b := false) (by kernel_rfl) (fun h => by cases h) (fun _ => ?_)
  refine pwp_skip <| pwp_seq <| kx [(5, (vin 0))] [(2, some (bx (encR (ofQ (Rat.divInt a b)))))] (zR (oLa sh49) <| zR (oLa sh49) <| zE (oCl (g_reduced num den a b hnum hden (by assumption))) <| zT (oSt sh51) <| zM <| zZ) ?_
  refine pwp_ret ⟨_, (res_a (cs := (bx (encR (ofQ (Rat.divInt a b))))) (d := (encR (ofQ (Rat.divInt a b)))) rfl rfl sh51 rfl rfl (.tmp (d := (.val (.int .i64 (0)))) rfl .nil)), ?_⟩
  rfl
end Go.Proofs.YtihgdjljnaekmaaGreat
namespace Go.Fid
end Go.Fid
namespace Go.Proofs.YtihgdjljnaekmaaGreat
open Go.Fid
set_option maxRecDepth 4000
set_option linter.unusedVariables false
set_option linter.unusedSimpArgs false
theorem cb70 : callB Tryz.prog 70 = true := by kernel_rfl
end Go.Proofs.YtihgdjljnaekmaaGreat
namespace Go.Proofs.YtihgdjljnaekmaaGreat
open Go.Fid
set_option maxRecDepth 4000
set_option linter.unusedVariables false
set_option linter.unusedSimpArgs false
theorem qs_of (n : Int) (hnl : -9223372036854775808 ≤ n) (hnh : n ≤ 9223372036854775807) (d : Int) (hdl : -9223372036854775808 ≤ d) (hdh : d ≤ 9223372036854775807) (hd : d ≠ 0) : Takes Tryz.prog 70 [(.val (.int .i64 (n))), (.val (.int .i64 (d)))] (.tup [(encR (ofQ (Rat.divInt n d))), (.val (.int .i64 (0)))]) := by
  refine fn_intro Tryz.func70 rfl cb70 rfl ?_
  show PWp _ _ _ _ ⟨[(0, (vi n)), (1, (vi d))], []⟩
  refine pwp_seq <| kx [(4, (.ref 0 0))] [(0, some (bx (encR (RRat.mk (RInt.mk false []) (RInt.mk false [])))))] (zN (oAl 0 ze51 zo51) <| zM <| zZ) ?_
  refine pwp_seq <| kx [(5, (vi 0))] [(0, some (bx (encR (ofQ (Rat.divInt n d)))))] (zM <| zE (oCl (g_whole1 n (by omega) (by omega))) <| zM <| zE (oCl (g_whole1 d (by omega) (by omega))) <| zE (oCl (g_newO (ofZ n) n (iok_up (iok_int (z := n) (by omega) (by omega)) (by decide)) (ofZ d) d (iok_up (iok_int (z := d) (by omega) (by omega)) (by decide)) hd)) <| zE oEx <| zE oEx <| zT (oSt sh51) <| zM <| zZ) ?_
  refine pwp_ret ⟨_, (res_a (cs := (bx (encR (ofQ (Rat.divInt n d))))) (d := (encR (ofQ (Rat.divInt n d)))) rfl rfl sh51 rfl rfl (.tmp (d := (.val (.int .i64 (0)))) rfl .nil)), ?_⟩
  rfl
end Go.Proofs.YtihgdjljnaekmaaGreat
namespace Go.Proofs.YtihgdjljnaekmaaGreat
open Go.Fid
set_option maxRecDepth 4000
set_option linter.unusedVariables false
set_option linter.unusedSimpArgs false
end Go.Proofs.YtihgdjljnaekmaaGreat
