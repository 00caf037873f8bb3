/- Part 14 of a proof: rules, plain facts, and functions walked. -/
import Derived.Test.YtleidgohjckmlaaM13
import Derived.Test.YtleidgohjckmlaaM6
set_option linter.unusedVariables false
set_option linter.unusedSimpArgs false
namespace Go.Fid
open Go.RowKit (Below)
section
variable {P : Program} {o : Oper} {S : Nat → SV}
theorem e_appn {T E t' : TypeId} {x y : Operand} {s s' : Nat} (ho : o.op = .call { callee := .builtin .append, args := #[x, y], argTypes := #[T, T] })
    (hT : elemB P T = some (E, s)) (hx : ev S x = .d (.val (.slice none 0 0))) (hy : ev S y = .d (.sl t' s' [])) : EOk P o S [] (.d (.val (.slice none 0 0))) :=
  EOk.same fun a w D β hop _ => by
    have h1 := hop x (by simp [ho, Op.operands, Call.operands])
    have h2 := hop y (by simp [ho, Op.operands, Call.operands])
    rw [hx] at h1
    rw [hy] at h2
    have h1 := rep_val h1
    obtain ⟨ao, c, us, hyv, hcc, hul, hfl', hone, hrep, had⟩ := rep_sl_cells h2
    obtain ⟨i, f1, f2, f3⟩ := elem_of hT
    refine ⟨.slice none 0 0, ?_, .val _⟩
    have e0 : ([] : List Dat).length = 0 := rfl
    have hu0 : us = [] := List.eq_nil_of_length_eq_zero (by simpa using hul)
    rw [e0] at hyv
    have hrun : (Builtin.append_ #[T, T] o.type #[.slice none 0 0, .slice ao 0 c]).run P w = .ok (.slice none 0 0) w := by
      cases ao with
      | none => simp [Builtin.append_, run_underlying f1, sizeOf, typeInfo, f2, Builtin.lenOf, Builtin.firstCells, storeCells]
      | some ad => simp [Builtin.append_, run_underlying f1, sizeOf, typeInfo, f2, Builtin.lenOf, Builtin.firstCells, loadCells, loadCellsFrom, storeCells]
    simp only [execOp, ho, resolve, invoke, builtin, Sem.run_bind, Sem.run_pure, Result.andThen_ok, List.map_toArray, List.map_cons, List.map_nil, h1, hyv, hrun]
theorem oAn {T E t' : TypeId} {x y : Operand} {s s' : Nat} {l : List Dat} (hT : elemB P T = some (E, s)) (hl : l.length = 0) (ho : o.op = .call { callee := .builtin .append, args := #[x, y], argTypes := #[T, T] } := by exact rfl) (hx : ev S x = .d (.val (.slice none 0 0)) := by exact rfl)
    (hy : ev S y = .d (.sl t' s' l) := by exact rfl) : EOk P o S [] (.d (.val (.slice none 0 0))) := by
  have : l = [] := List.eq_nil_of_length_eq_zero hl
  subst this
  exact e_appn ho hT hx hy
end
theorem tk_nilR {P : Program} {f : FuncId} {ds : List Dat} (E : TypeId) (s : Nat) (h : Takes P f ds (.val (.slice none 0 0))) : Takes P f ds (.sl E s []) :=
  ⟨h.may, fun w D vs hD ha => (h.run w D vs hD ha).mono fun e w' h => by
    obtain ⟨v, D', h1, h2, h3, h4⟩ := h
    exact ⟨v, D', h1, h2, h3, rep_val h4 ▸ rep_nil _ _ _ _⟩⟩
end Go.Fid
set_option linter.unusedVariables false
set_option linter.unusedSimpArgs false
namespace Go.Fid
open Go.RowKit (Below)
section
variable {P : Program} {n : Fr} {ops : Array Oper} {K : SL → BS → Prop} {S S0 S1 : SL} {B B0 B1 : BS} {l : List Oper} {o : Oper} {D : SL}
theorem zY (h1 : D.map (fun p => sget S p.1) = D.map (·.2) := by kernel_rfl) (h2 : S.drop (S.length - S0.length) = S0 := by kernel_rfl) (h3 : ((S.take (S.length - S0.length)).all fun p => inS D p.1 || isJ (sget S0 p.1)) = true := by kernel_rfl) : SK P n ops (KS S0 B D []) S B [] :=
  zZ h1 h2 h3 rfl (by rw [Nat.sub_self]; rfl) (by rw [Nat.sub_self]; rfl)
def KI (S1 : SL) (B1 : BS) (S : SL) (B : BS) : Prop := SimImp ⟨S, B⟩ ⟨S1, B1⟩
theorem kr {id : Nat} {Q : Exit → PS → Prop} (S1 : SL) (B1 : BS) (h : SK P n l.toArray (KI S1 B1) S0 B0 l) (hq : Q .normal ⟨S1, B1⟩) (hp : l.all plainB = true := by kernel_rfl) : PWp P n (.region id l.toArray false) Q ⟨S0, B0⟩ := fun C a w N hn hs => by
  obtain ⟨st1, h1, h2⟩ := h
  subst hn
  exact wpIn_region_lit (steps_sound (C := C) h1 hp rfl (fun a' w' hs' => ⟨_, h2 C a' w' hs', hq⟩) hs)
theorem zI (h : SimImp ⟨S, B⟩ ⟨S1, B1⟩) : SK P n ops (KI S1 B1) S B [] := ⟨⟨S, B⟩, .nil, h⟩
theorem row_ld {T E : TypeId} {x : Operand} {rows : List (List Dat)} {j : Nat} (hs : shapeB P T = some (false, 1)) (hj : j < rows.length) (ho : o.op = .load T x := by exact rfl) (hx : ev (sget S) x = .ref 0 j := by exact rfl) : ROk P o S ((0, some (rowC E 1 1 rows)) :: B) 0 (.own (j + 1) E 1 (rows.getD j []).length) :=
  ⟨rowC E 1 1 rows, e_ld1 ho hx hs (by
    rw [rowC_get, List.getElem?_eq_getElem hj]
    simp only [Option.map_some, List.getD_eq_getElem?_getD, List.getElem?_eq_getElem hj, Option.getD_some]
    rw [Nat.add_comm]), by rw [bget_cons, if_pos rfl]⟩
theorem row_st {T E : TypeId} {x y : Operand} {rows : List (List Dat)} {c : Option (List SV)} {j m : Nat} (hs : shapeB P T = some (false, 1)) (hj : j < rows.length) (ho : o.op = .store T x y := by exact rfl) (hx : ev (sget S) x = .ref 0 j := by exact rfl) (hy : ev (sget S) y = .own (j + 1) E 1 m := by exact rfl) :
    TK P o S ((j + 1, c) :: (0, some ((rowC E 1 1 rows).set j .junk)) :: B) 0 (patch ((rowC E 1 1 rows).set j .junk) j [.own (j + 1) E 1 m]) :=
  ⟨(rowC E 1 1 rows).set j .junk, t_store ho hx hy hs (.inr ⟨⟨_, _, _, _, rfl⟩, rfl⟩) rfl (by rw [List.length_set, rowC_len]; omega), by rw [bget_cons, if_neg (by omega), bget_cons, if_pos rfl]⟩
theorem sim_rowset {S' : SL} {E : TypeId} {rows : List (List Dat)} {j : Nat} {d : Dat} {c0 : Option (List SV)} (hj : j < rows.length) (hs : S'.map (fun p => sget S p.1) = S'.map (·.2)) :
    SimImp ⟨S, (0, some (patch ((rowC E 1 1 rows).set j .junk) j [.own (j + 1) E 1 ((rows.getD j []).length + 1)])) :: (j + 1, some ((rows.getD j [] ++ [d]).map .d)) :: (0, c0) :: rowB 1 rows⟩
      ⟨S', (0, some (rowC E 1 1 (rows.set j (rows.getD j [] ++ [d])))) :: rowB 1 (rows.set j (rows.getD j [] ++ [d]))⟩ := by
  refine sim_get (sget_eq_or hs) fun i c hi => ?_
  rw [bget_cons] at hi ⊢
  split at hi
  · rename_i e
    rw [if_pos e, ← hi]
    congr 1
    refine List.ext_getElem? fun q => ?_
    rw [patch_get (by rw [List.length_set, rowC_len]; simp; omega), rowC_get, List.length_singleton]
    by_cases hq : q = j
    · subst hq
      rw [if_neg (Nat.lt_irrefl _), if_pos (by omega), Nat.sub_self, List.getElem?_set, if_pos rfl, if_pos hj]
      simp [Nat.add_comm]
    · have hne : j ≠ q := fun h => hq h.symm
      have e2 : ((rowC E 1 1 rows).set j SV.junk)[q]? = (rowC E 1 1 rows)[q]? := List.getElem?_set_ne hne
      have e3 : (rows.set j (rows.getD j [] ++ [d]))[q]? = rows[q]? := List.getElem?_set_ne hne
      rw [e2, e3, rowC_get]
      by_cases h1 : q < j
      · rw [if_pos h1]
      · rw [if_neg h1, if_neg (by omega)]
  · rename_i e
    rw [if_neg e, bget_cons]
    rw [rowB_get] at hi
    split at hi
    · rename_i h1
      rw [List.getElem?_set] at hi
      split at hi
      · rename_i h2
        rw [if_pos (by omega)]
        first | exact hi | (rw [if_pos (by omega)] at hi; exact hi)
      · rename_i h2
        rw [if_neg (by omega), bget_cons, if_neg e, rowB_get, if_pos h1]
        exact hi
    · cases hi
end
def swJ (k k' J j : Nat) (c : List SV) : List SV := bif Nat.beq j J then c.map (SV.sw k k') else c
theorem sim_ren2 {S S' : SL} {B B' : BS} (k k' J : Nat) (h1 : S'.map (fun p => sget S p.1) = S'.map (fun p => p.2.sw k k') := by kernel_rfl) (h2 : B'.map (fun p => bget B (swN k k' p.1)) = B'.map (fun p => p.2.map (swJ k k' J p.1)) := by kernel_rfl) (h3 : (B'.all fun p => !(Nat.beq p.1 k')) = true := by kernel_rfl)
    (h4 : Clr k ((k, none) :: B) := by repeat first | exact clr_nil _ | refine clr_self ?_ | refine clr_map ?_ | refine clr_none ?_ | refine clr_bx ?_ | refine clr_d ?_ | refine clr_cons rfl ?_) (h5 : bget B k = none := by kernel_rfl) : SimImp ⟨S, B⟩ ⟨S', B'⟩ := fun C a w ⟨D, β, hs⟩ => by
  have hget : ∀ {l : BS}, (l.map (fun p => bget B (swN k k' p.1)) = l.map (fun p => p.2.map (swJ k k' J p.1))) → ∀ {j c}, bget l j = some c → bget B (swN k k' j) = some (swJ k k' J j c) := by
    intro l
    induction l with
    | nil => intro _ j c h; simp [bget] at h
    | cons p l ih =>
      intro hl j c hj
      obtain ⟨q, y⟩ := p
      simp only [List.map_cons, List.cons.injEq] at hl
      rw [bget_cons] at hj
      split at hj
      · rename_i e; subst e; subst hj; rw [hl.1]; rfl
      · exact ih hl.2 hj
  have hkey : ∀ {l : BS}, ((l.all fun p => !(Nat.beq p.1 k')) = true) → ∀ {j c}, bget l j = some c → j ≠ k' := by
    intro l
    induction l with
    | nil => intro _ j c h; simp [bget] at h
    | cons p l ih =>
      intro hl j c hj e
      obtain ⟨q, y⟩ := p
      simp only [List.all_cons, Bool.and_eq_true, Bool.not_eq_true'] at hl
      rw [bget_cons] at hj
      split at hj
      · rename_i e2; subst e2; subst e; simp at hl
      · exact ih hl.2 hj e
  have hnk : ∀ {j c}, bget B j = some c → j ≠ k ∧ namesAny k c = false := fun {j c} hj => by
    have hne : j ≠ k := fun e => by subst e; rw [h5] at hj; cases hj
    exact ⟨hne, h4 j c hne (by rw [bget_cons, if_neg (fun e => hne e.symm)]; exact hj)⟩
  have hsl : ∀ {l : SL}, (l.map (fun p => sget S p.1) = l.map (fun p => p.2.sw k k')) → ∀ t, sget l t = .junk ∨ sget S t = (sget l t).sw k k' := by
    intro l
    induction l with
    | nil => intro _ t; exact .inl rfl
    | cons p l ih =>
      intro hl t
      obtain ⟨q, y⟩ := p
      simp only [List.map_cons, List.cons.injEq] at hl
      rw [sget_cons]
      split
      · rename_i e; subst e; exact .inr hl.1
      · exact ih hl.2 t
  refine ⟨D, fun j => β (swN k k' j), hs.base, ⟨fun j c hj => ?_, fun j1 j2 c1 c2 q1 q2 b e1 e2 => ?_⟩, fun j c hj b hb => hs.high _ _ (hget h2 hj) b hb, fun t => ?_⟩
  · have hc := hget h2 hj
    obtain ⟨_, hn⟩ := hnk hc
    rcases hs.mem.ok _ _ hc with ⟨h, h'⟩ | ⟨b, vs, T, g1, g2, g3, g4, g5⟩
    · refine .inl ⟨h, ?_⟩
      unfold swJ at h'
      cases hJ : Nat.beq j J with
      | true => rw [hJ, cond_true, List.map_eq_nil_iff] at h'; exact h'
      | false => rw [hJ, cond_false] at h'; exact h'
    · unfold swJ at hn g3 g4
      cases hJ : Nat.beq j J with
      | true =>
        rw [hJ, cond_true] at g3 g4
        refine .inr ⟨b, vs, T, g1, g2, by simpa using g3, fun i x hi => ?_, g5⟩
        obtain ⟨u, e1, e2, e3⟩ := g4 i (x.sw k k') (by rw [List.getElem?_map, hi]; rfl)
        exact ⟨u, e1, e2, RepS.sw e3⟩
      | false =>
        rw [hJ, cond_false] at hn g3 g4
        refine .inr ⟨b, vs, T, g1, g2, g3, fun i x hi => ?_, g5⟩
        obtain ⟨u, e1, e2, e3⟩ := g4 i x hi
        exact ⟨u, e1, e2, RepS.sw (by rw [sw_of (names_get hn hi)]; exact e3)⟩
  · have := hs.mem.inj _ _ _ _ (hget h2 q1) (hget h2 q2) b e1 e2
    have n1 := hkey h3 q1
    have n2 := hkey h3 q2
    by_cases g1 : j1 = k <;> by_cases g2 : j2 = k
    · omega
    · subst g1; rw [swN_eq, swN_ne g2] at this; omega
    · subst g2; rw [swN_eq, swN_ne g1] at this; omega
    · rw [swN_ne g1, swN_ne g2] at this; exact this
  · show RepS w D _ _ (sget S' t)
    rcases hsl h1 t with h | h
    · rw [h]; trivial
    · have := hs.slots t
      dsimp only at this
      rw [h] at this
      exact this.sw
theorem inc_up {w : Int} (h1 : ¬ w < 1) (h2 : ¬ 64 < w) : IntKind.i64.wrap (w + 1) = w + 1 := wAny rfl (by simp only [kLo]; omega) (by simp only [kHi]; omega)
theorem half_up {w : Int} (h1 : ¬ w < 1) (h2 : ¬ 64 < w) : IntKind.i64.wrap ((w + 1).tdiv 2) = (w + 1) / 2 := by
  rw [Int.tdiv_eq_ediv_of_nonneg (by omega)]; exact wAny rfl (by simp only [kLo]; omega) (by simp only [kHi]; omega)
theorem half_dn {w : Int} (h1 : ¬ w < 1) (h2 : ¬ 64 < w) : IntKind.i64.wrap (w.tdiv 2) = w / 2 := by
  rw [Int.tdiv_eq_ediv_of_nonneg (by omega)]; exact wAny rfl (by simp only [kLo]; omega) (by simp only [kHi]; omega)
end Go.Fid
namespace Go.Fid
set_option linter.unusedVariables false
set_option linter.unusedSimpArgs false
def pw (n : Nat) : Nat := 1000000000 ^ n
theorem pw_zero : pw 0 = 1 := rfl
theorem pw_succ (n : Nat) : pw (n + 1) = 1000000000 * pw n := by unfold pw; rw [Nat.pow_succ, Nat.mul_comm]
theorem pw_add (m n : Nat) : pw (m + n) = pw m * pw n := by unfold pw; rw [Nat.pow_add]
theorem pw_pos (n : Nat) : 0 < pw n := Nat.pow_pos (by decide)
theorem pw_mono {m n : Nat} (h : m ≤ n) : pw m ≤ pw n := Nat.pow_le_pow_right (by decide) h
theorem pw_lt {m n : Nat} (h : m < n) : pw m < pw n := Nat.pow_lt_pow_right (by decide) h
attribute [irreducible] pw
def val : List Nat → Nat
  | [] => 0
  | d :: l => d + 1000000000 * val l
def Dig (l : List Nat) : Prop := ∀ d ∈ l, d < 1000000000
theorem val_nil : val [] = 0 := rfl
theorem val_cons (d : Nat) (l : List Nat) : val (d :: l) = d + 1000000000 * val l := rfl
theorem val_one (d : Nat) : val [d] = d := by simp [val]
theorem dig_nil : Dig [] := by intro d h; cases h
theorem dig_cons {d : Nat} {l : List Nat} : Dig (d :: l) ↔ d < 1000000000 ∧ Dig l := by simp [Dig]
theorem dig_append {a b : List Nat} : Dig (a ++ b) ↔ Dig a ∧ Dig b := by
  constructor
  · intro h; exact ⟨fun d hd => h d (by simp [hd]), fun d hd => h d (by simp [hd])⟩
  · intro h d hd; rcases List.mem_append.1 hd with h' | h'
    · exact h.1 d h'
    · exact h.2 d h'
theorem Dig.take {l : List Nat} (h : Dig l) (n : Nat) : Dig (l.take n) := fun d hd => h d (List.mem_of_mem_take hd)
theorem Dig.drop {l : List Nat} (h : Dig l) (n : Nat) : Dig (l.drop n) := fun d hd => h d (List.mem_of_mem_drop hd)
theorem Dig.set {l : List Nat} (h : Dig l) (i : Nat) {d : Nat} (hd : d < 1000000000) : Dig (l.set i d) := by
  intro x hx
  rcases List.mem_or_eq_of_mem_set hx with h' | h'
  · exact h x h'
  · exact h' ▸ hd
theorem Dig.getD {l : List Nat} (h : Dig l) (i : Nat) : l.getD i 0 < 1000000000 := by
  unfold List.getD
  cases hi : l[i]? with
  | none => decide
  | some x => exact h x (List.mem_of_getElem? hi)
theorem dig_replicate (n : Nat) : Dig (List.replicate n 0) := by
  intro d hd; rw [(List.mem_replicate.1 hd).2]; decide
theorem val_replicate (n : Nat) : val (List.replicate n 0) = 0 := by
  induction n with
  | zero => rfl
  | succ n ih => rw [List.replicate_succ, val_cons, ih]
theorem val_append (a b : List Nat) : val (a ++ b) = val a + pw a.length * val b := by
  induction a with
  | nil => simp [val, pw_zero]
  | cons d a ih => rw [List.cons_append, val_cons, val_cons, ih, List.length_cons, pw_succ]; grind
theorem val_lt {l : List Nat} (h : Dig l) : val l < pw l.length := by
  induction l with
  | nil => simp [val, pw_zero]
  | cons d l ih =>
    rw [dig_cons] at h
    have := ih h.2
    rw [val_cons, List.length_cons, pw_succ]; omega
theorem val_take_succ (l : List Nat) (i : Nat) : val (l.take (i + 1)) = val (l.take i) + pw i * l.getD i 0 := by
  by_cases h : i < l.length
  · rw [List.take_succ_eq_append_getElem h, val_append, val_one, List.length_take, Nat.min_eq_left (Nat.le_of_lt h)]
    simp [List.getD, List.getElem?_eq_getElem h]
  · rw [List.take_of_length_le (by omega), List.take_of_length_le (by omega)]
    simp [List.getD, List.getElem?_eq_none (Nat.le_of_not_lt h)]
theorem val_take_set (l : List Nat) (i d : Nat) (h : i < l.length) : val ((l.set i d).take (i + 1)) = val (l.take i) + pw i * d := by
  rw [val_take_succ, List.take_set_of_le (Nat.le_refl i)]
  simp [List.getD, h]
theorem val_set (l : List Nat) (i d : Nat) (h : i < l.length) : val (l.set i d) + pw i * l.getD i 0 = val l + pw i * d := by
  induction l generalizing i with
  | nil => simp at h
  | cons x l ih =>
    cases i with
    | zero => simp [val, pw_zero]; omega
    | succ i =>
      have := ih i (by simpa using h)
      simp only [List.set_cons_succ, val_cons, List.getD_cons_succ, pw_succ]
      grind
theorem val_split (l : List Nat) (i : Nat) (h : i ≤ l.length) : val l = val (l.take i) + pw i * val (l.drop i) := by
  have h1 := val_append (l.take i) (l.drop i)
  rw [List.take_append_drop, List.length_take, Nat.min_eq_left h] at h1
  exact h1
theorem getD_set (l : List Nat) (i j d : Nat) (h : i < l.length) : (l.set i d).getD j 0 = if i = j then d else l.getD j 0 := by
  simp only [List.getD, List.getElem?_set]
  by_cases hij : i = j
  · subst hij; simp [h]
  · simp [hij]
def ofNat (n : Nat) : List Nat := if n = 0 then [] else n % 1000000000 :: ofNat (n / 1000000000)
termination_by n
decreasing_by omega
theorem ofNat_zero : ofNat 0 = [] := by rw [ofNat]; rfl
theorem ofNat_pos {n : Nat} (h : n ≠ 0) : ofNat n = n % 1000000000 :: ofNat (n / 1000000000) := by rw [ofNat, if_neg h]
theorem ofNat_val : ∀ n, val (ofNat n) = n
  | n => by
    by_cases h : n = 0
    · subst h; rw [ofNat_zero]; rfl
    · rw [ofNat_pos h, val_cons, ofNat_val (n / 1000000000)]; omega
termination_by n => n
decreasing_by omega
theorem ofNat_dig : ∀ n, Dig (ofNat n)
  | n => by
    by_cases h : n = 0
    · subst h; rw [ofNat_zero]; exact dig_nil
    · rw [ofNat_pos h]; exact dig_cons.2 ⟨Nat.mod_lt _ (by decide), ofNat_dig (n / 1000000000)⟩
termination_by n => n
decreasing_by omega
theorem ofNat_nil {n : Nat} : ofNat n = [] ↔ n = 0 := by
  constructor
  · intro h; rw [← ofNat_val n, h]; rfl
  · intro h; rw [h, ofNat_zero]
def Top (l : List Nat) : Prop := l.getD (l.length - 1) 1 ≠ 0
def Cano (l : List Nat) : Prop := Dig l ∧ Top l
theorem top_cons {d : Nat} {l : List Nat} (h : l ≠ []) : Top (d :: l) ↔ Top l := by
  cases l with
  | nil => exact absurd rfl h
  | cons e l => simp [Top]
theorem ofNat_top : ∀ n, Top (ofNat n)
  | n => by
    by_cases h : n = 0
    · subst h; rw [ofNat_zero]; simp [Top]
    · rw [ofNat_pos h]
      by_cases h' : n / 1000000000 = 0
      · rw [h', ofNat_zero]; simp [Top]; omega
      · rw [top_cons (fun e => h' (ofNat_nil.1 e))]; exact ofNat_top (n / 1000000000)
termination_by n => n
decreasing_by omega
theorem ofNat_can (n : Nat) : Cano (ofNat n) := ⟨ofNat_dig n, ofNat_top n⟩
theorem can_tail {d : Nat} {l : List Nat} (h : Cano (d :: l)) : Cano l := by
  refine ⟨(dig_cons.1 h.1).2, ?_⟩
  by_cases hl : l = []
  · subst hl; simp [Top]
  · exact (top_cons hl).1 h.2
theorem can_eq : ∀ {l : List Nat}, Cano l → l = ofNat (val l)
  | [], _ => by rw [val_nil, ofNat_zero]
  | d :: l, h => by
    have ih := can_eq (can_tail h)
    have hd := (dig_cons.1 h.1).1
    have hne : val (d :: l) ≠ 0 := by
      rw [val_cons]
      intro e
      have h0 : val l = 0 := by omega
      rw [h0, ofNat_zero] at ih
      have hd0 : d = 0 := by omega
      subst ih; subst hd0
      exact h.2 rfl
    have e1 : (d + 1000000000 * val l) % 1000000000 = d := by omega
    have e2 : (d + 1000000000 * val l) / 1000000000 = val l := by omega
    rw [ofNat_pos hne, val_cons, e1, e2, ← ih]
theorem can_ofNat_val {l : List Nat} (h : Cano l) {n : Nat} (hn : val l = n) : l = ofNat n := hn ▸ can_eq h
theorem ofNat_length_le {n m : Nat} (h : n < pw m) : (ofNat n).length ≤ m := by
  induction m generalizing n with
  | zero => rw [pw_zero] at h; have : n = 0 := by omega
            subst this; rw [ofNat_zero]; exact Nat.le_refl _
  | succ m ih =>
    by_cases h0 : n = 0
    · subst h0; rw [ofNat_zero]; simp
    · rw [ofNat_pos h0, List.length_cons]
      have := ih (n := n / 1000000000) (by rw [pw_succ] at h; omega)
      omega
theorem val_ge_of_top {l : List Nat} (h : Top l) (hl : l ≠ []) : pw (l.length - 1) ≤ val l := by
  have h1 := val_take_succ l (l.length - 1)
  have hp : 0 < l.length := by cases l with
    | nil => exact absurd rfl hl
    | cons => simp
  rw [show l.length - 1 + 1 = l.length by omega, List.take_length] at h1
  have h2 : l.getD (l.length - 1) 0 ≠ 0 := by
    have h3 : l.getD (l.length - 1) 1 ≠ 0 := h
    have h4 : l.length - 1 < l.length := by omega
    simpa [List.getD, List.getElem?_eq_getElem h4] using h3
  rw [h1]
  refine Nat.le_trans ?_ (Nat.le_add_left _ _)
  exact Nat.le_mul_of_pos_right _ (Nat.pos_of_ne_zero h2)
theorem ofNat_len_lt {n m : Nat} (h : (ofNat n).length < (ofNat m).length) : n < m := by
  have h1 := val_lt (ofNat_dig n)
  have h2 := val_ge_of_top (ofNat_top m) (by intro e; rw [e] at h; simp at h)
  rw [ofNat_val] at h1 h2
  exact Nat.lt_of_lt_of_le h1 (Nat.le_trans (pw_mono (by omega)) h2)
theorem getD_out {l : List Nat} {i : Nat} (h : ¬ (i : Int) < (l.length : Int)) : l.getD i 0 = 0 := by
  simp [List.getD, List.getElem?_eq_none (show l.length ≤ i by omega)]
theorem trim_cond {l : List Nat} {b : Bool} (h : (decide ((0 : Int) < ((l.length : Nat) : Int)) && (((l.getD (l.length - 1) 0 : Nat) : Int) == 0)) = b) : if b then 0 < l.length ∧ l.getD (l.length - 1) 0 = 0 else l.length = 0 ∨ l.getD (l.length - 1) 0 ≠ 0 := by
  subst h
  by_cases h1 : l.length = 0
  · simp [h1]
  · have h2 : 0 < l.length := by omega
    by_cases h3 : l.getD (l.length - 1) 0 = 0
    · have : ((0 : Nat) : Int) = 0 := rfl
      simp only [h3, this, beq_self_eq_true, Bool.and_true]
      simp [h2, h3]
    · have h4 : (((l.getD (l.length - 1) 0 : Nat) : Int) == 0) = false := by
        rw [beq_eq_false_iff_ne]; omega
      simp only [h4, Bool.and_false]
      exact .inr h3
theorem trim_step {l l0 : List Nat} (hl : Dig l) (hv : val l = val l0) (hle : l.length ≤ l0.length) (h : (decide ((0 : Int) < ((l.length : Nat) : Int)) && (((l.getD (l.length - 1) 0 : Nat) : Int) == 0)) = true) :
    Dig (l.take (l.length - 1)) ∧ val (l.take (l.length - 1)) = val l0 ∧ (l.take (l.length - 1)).length ≤ l0.length := by
  obtain ⟨h1, h2⟩ := trim_cond h
  refine ⟨hl.take _, ?_, by simp; omega⟩
  have h3 := val_take_succ l (l.length - 1)
  rw [show l.length - 1 + 1 = l.length by omega, List.take_length, h2] at h3
  omega
theorem trim_less {l : List Nat} (h : (decide ((0 : Int) < ((l.length : Nat) : Int)) && (((l.getD (l.length - 1) 0 : Nat) : Int) == 0)) = true) : (l.take (l.length - 1)).length < l.length := by
  obtain ⟨h1, h2⟩ := trim_cond h
  simp; omega
theorem trim_end {l l0 : List Nat} (hl : Dig l) (hv : val l = val l0) (h : (decide ((0 : Int) < ((l.length : Nat) : Int)) && (((l.getD (l.length - 1) 0 : Nat) : Int) == 0)) = false) : ofNat (val l0) = l := by
  have h1 := trim_cond h
  simp only [Bool.false_eq_true, if_false] at h1
  refine (can_ofNat_val ⟨hl, ?_⟩ hv).symm
  rcases h1 with h1 | h1
  · have : l = [] := List.eq_nil_of_length_eq_zero h1
    subst this; simp [Top]
  · intro h2
    by_cases h3 : l.length = 0
    · have : l = [] := List.eq_nil_of_length_eq_zero h3
      subst this; simp at h2
    · have h4 : l.length - 1 < l.length := by omega
      simp [List.getD, List.getElem?_eq_getElem h4] at h1 h2
      exact h1 h2
theorem plus_step {a b out : List Nat} {i c n s c' : Nat} (hlen : out.length = n) (hd : Dig out) (hi : i < n) (hv : val (out.take i) + pw i * c = val (a.take i) + val (b.take i)) (hs : s < 1000000000) (hsum : s + 1000000000 * c' = a.getD i 0 + b.getD i 0 + c) :
    (out.set i s).length = n ∧ Dig (out.set i s) ∧ val ((out.set i s).take (i + 1)) + pw (i + 1) * c' = val (a.take (i + 1)) + val (b.take (i + 1)) := by
  refine ⟨by simpa using hlen, hd.set i hs, ?_⟩
  rw [val_take_set out i s (by omega), val_take_succ, val_take_succ, pw_succ]
  grind
theorem plus_end {a b out : List Nat} {c : Nat} (hda : Dig a) (hdb : Dig b) (hlen : out.length = max a.length b.length + 1) (hv : val (out.take (max a.length b.length + 1)) + pw (max a.length b.length + 1) * c = val (a.take (max a.length b.length + 1)) + val (b.take (max a.length b.length + 1))) : val out = val a + val b := by
  rw [List.take_of_length_le (by omega), List.take_of_length_le (by omega), List.take_of_length_le (by omega)] at hv
  have h1 := val_lt hda
  have h2 := val_lt hdb
  have h3 : pw a.length ≤ pw (max a.length b.length) := pw_mono (by omega)
  have h4 : pw b.length ≤ pw (max a.length b.length) := pw_mono (by omega)
  rw [pw_succ] at hv
  have hc : c = 0 := by
    rcases Nat.eq_zero_or_pos c with h | h
    · exact h
    · have : 1000000000 * pw (max a.length b.length) ≤ 1000000000 * pw (max a.length b.length) * c := Nat.le_mul_of_pos_right _ h
      omega
  subst hc
  omega
theorem minus_step {a b out : List Nat} {i c n s c' : Nat} (hlen : out.length = n) (hd : Dig out) (hi : i < n) (hv : val (out.take i) + val (b.take i) = val (a.take i) + pw i * c) (hs : s < 1000000000) (hsum : s + (b.getD i 0 + c) = a.getD i 0 + 1000000000 * c') :
    (out.set i s).length = n ∧ Dig (out.set i s) ∧ val ((out.set i s).take (i + 1)) + val (b.take (i + 1)) = val (a.take (i + 1)) + pw (i + 1) * c' := by
  refine ⟨by simpa using hlen, hd.set i hs, ?_⟩
  rw [val_take_set out i s (by omega), val_take_succ, val_take_succ, pw_succ]
  grind
theorem minus_end {a b out : List Nat} {c : Nat} (hda : Dig a) (hdb : Dig b) (hd : Dig out) (hba : val b ≤ val a) (hlen : out.length = a.length) (hv : val (out.take a.length) + val (b.take a.length) = val (a.take a.length) + pw a.length * c) : val out = val a - val b := by
  rw [List.take_of_length_le (l := out) (by omega), List.take_of_length_le (l := a) (by omega)] at hv
  have h1 := val_lt hda
  have h2 := val_lt hd
  rw [hlen] at h2
  have h3 : val (b.take a.length) = val b := by
    by_cases h : a.length ≤ b.length
    · have h4 := val_split b a.length h
      rcases Nat.eq_zero_or_pos (val (b.drop a.length)) with h5 | h5
      · rw [h5] at h4; omega
      · have : pw a.length ≤ pw a.length * val (b.drop a.length) := Nat.le_mul_of_pos_right _ h5
        omega
    · rw [List.take_of_length_le (by omega)]
  have hc : c = 0 := by
    rcases Nat.eq_zero_or_pos c with h | h
    · exact h
    · have : pw a.length ≤ pw a.length * c := Nat.le_mul_of_pos_right _ h
      omega
  subst hc
  omega
theorem times_step {out : List Nat} {A X p q pb c i j s : Nat} (hi : i + j < out.length) (hd : Dig out) (hv : val out + pw (i + j) * c = A + pw i * (p * X)) (hs : s = out.getD (i + j) 0 + p * q + c) (hX : pb = X + pw j * q) :
    Dig (out.set (i + j) (s % 1000000000)) ∧ val (out.set (i + j) (s % 1000000000)) + pw (i + j + 1) * (s / 1000000000) = A + pw i * (p * pb) := by
  refine ⟨hd.set _ (Nat.mod_lt _ (by decide)), ?_⟩
  have h1 := val_set out (i + j) (s % 1000000000) hi
  have h2 : s = s % 1000000000 + 1000000000 * (s / 1000000000) := by omega
  generalize hs1 : s % 1000000000 = u at *
  generalize hs2 : s / 1000000000 = t at *
  generalize hg : out.getD (i + j) 0 = g at *
  generalize hv2 : val (out.set (i + j) u) = v at *
  rw [pw_succ]
  rw [pw_add] at *
  subst hX
  have h3 : u + 1000000000 * t = g + p * q + c := by omega
  have h4 : pw i * pw j * (u + 1000000000 * t) = pw i * pw j * (g + p * q + c) := by rw [h3]
  grind
theorem getD_replicate (n k : Nat) : (List.replicate n 0).getD k 0 = 0 := by
  simp only [List.getD, List.getElem?_replicate]
  split <;> rfl
theorem zero_set {out : List Nat} {i m s : Nat} (h : i < m) (hz : ∀ k, m ≤ k → out.getD k 0 = 0) : ∀ k, m ≤ k → (out.set i s).getD k 0 = 0 := fun k hk => by
  have h1 := hz k hk
  simp only [List.getD, List.getElem?_set] at h1 ⊢
  rw [if_neg (by omega)]
  exact h1
theorem times_row {a b o2 : List Nat} {i c : Nat} (hdb : Dig o2) (hi : i < a.length) (hlen : o2.length = a.length + b.length) (hz : ∀ k, i + b.length ≤ k → o2.getD k 0 = 0) (hc : c < 1000000000)
    (hv : val o2 + pw (i + b.length) * c = val (a.take i) * val b + pw i * (a.getD i 0 * val (b.take b.length))) :
    (o2.set (i + b.length) c).length = a.length + b.length ∧ Dig (o2.set (i + b.length) c) ∧ (∀ k, i + 1 + b.length ≤ k → (o2.set (i + b.length) c).getD k 0 = 0) ∧ val (o2.set (i + b.length) c) = val (a.take (i + 1)) * val b := by
  refine ⟨by simpa using hlen, hdb.set _ hc, zero_set (by omega) (fun k hk => hz k (by omega)), ?_⟩
  have h1 := val_set o2 (i + b.length) c (by omega)
  rw [hz _ (Nat.le_refl _)] at h1
  rw [List.take_of_length_le (l := b) (Nat.le_refl _)] at hv
  rw [val_take_succ]
  grind
end Go.Fid
namespace Go.Fid
structure RInt where
  neg : Bool
  gs : List Nat
structure RRat where
  num : RInt
  den : RInt
structure RRng where
  lo : RRat
  hi : RRat
instance : Inhabited RInt := ⟨⟨false, []⟩⟩
instance : Inhabited RRat := ⟨⟨⟨false, []⟩, ⟨false, []⟩⟩⟩
instance : Inhabited RRng := ⟨⟨default, default⟩⟩
def RInt.zero : RInt := ⟨false, []⟩
def RRat.zero : RRat := ⟨.zero, .zero⟩
def RRng.zero : RRng := ⟨.zero, .zero⟩
def cmpI (a b : Int) : Int := if a < b then -1 else if b < a then 1 else 0
theorem cmpI_gt {a b : Int} (h : b < a) : cmpI a b = 1 := by unfold cmpI; rw [if_neg (by omega), if_pos h]
theorem cmpI_eq {a b : Int} (h1 : ¬ a < b) (h2 : ¬ b < a) : cmpI a b = 0 := by unfold cmpI; rw [if_neg h1, if_neg h2]
def mkI (neg : Bool) (n : Nat) : RInt := ⟨neg && n != 0, ofNat n⟩
theorem mkI_zero {neg : Bool} {n : Nat} (h : (((ofNat n).length : Nat) : Int) = 0) : mkI neg n = ⟨false, []⟩ := by
  have h1 : ofNat n = [] := List.eq_nil_of_length_eq_zero (by omega)
  have h2 : n = 0 := ofNat_nil.1 h1
  subst h2
  unfold mkI
  rw [h1]
  simp
theorem mkI_pos {neg : Bool} {n : Nat} (h : (((ofNat n).length : Nat) : Int) ≠ 0) : mkI neg n = ⟨neg, ofNat n⟩ := by
  have h1 : n ≠ 0 := fun e => by subst e; rw [ofNat_zero] at h; exact h rfl
  unfold mkI
  have : (n != 0) = true := bne_iff_ne.2 h1
  rw [this, Bool.and_true]
theorem val_drop (l : List Nat) (j : Nat) (h : j < l.length) : val (l.drop (l.length - (j + 1))) = l.getD (l.length - 1 - j) 0 + 1000000000 * val (l.drop (l.length - j)) := by
  have h1 : l.length - (j + 1) < l.length := by omega
  rw [List.drop_eq_getElem_cons h1, val_cons, show l.length - (j + 1) + 1 = l.length - j by omega]
  have h2 : l.length - 1 - j = l.length - (j + 1) := by omega
  rw [h2]
  simp [List.getD, List.getElem?_eq_getElem h1]
theorem val_drop_lt {l : List Nat} (hd : Dig l) {j : Nat} (h : j ≤ l.length) : val (l.drop (l.length - j)) < pw j := by
  have h1 := val_lt (hd.drop (l.length - j))
  rw [List.length_drop, show l.length - (l.length - j) = j by omega] at h1
  exact h1
def wordV (l : List Nat) : Nat := if l.length ≤ 2 then val l else 0
def wordB (l : List Nat) : Bool := decide (l.length ≤ 2)
theorem word_bound {l : List Nat} (hd : Dig l) {j : Nat} (h : j < l.length) (h2 : l.length ≤ 2) : val (l.drop (l.length - j)) < 1000000000 := by
  have h1 := val_drop_lt hd (Nat.le_of_lt h)
  have h3 : pw j ≤ pw 1 := pw_mono (by omega)
  rw [show (1 : Nat) = 0 + 1 from rfl, pw_succ, pw_zero] at h3
  omega
theorem val_len2 {l : List Nat} (hd : Dig l) (h2 : l.length ≤ 2) : val l < 1000000000000000000 := by
  have h1 := val_lt hd
  have h3 : pw l.length ≤ pw 2 := pw_mono h2
  rw [show (2 : Nat) = 0 + 1 + 1 from rfl, pw_succ, pw_succ, pw_zero] at h3
  omega
theorem cmpI_len {a b : List Nat} (ha : Cano a) (hb : Cano b) (h : ((a.length : Nat) : Int) ≠ ((b.length : Nat) : Int)) : cmpI ((a.length : Nat) : Int) ((b.length : Nat) : Int) = cmpI ((val a : Nat) : Int) ((val b : Nat) : Int) := by
  have e1 := can_eq ha
  have e2 := can_eq hb
  by_cases hlt : a.length < b.length
  · have : val a < val b := ofNat_len_lt (by rw [← e1, ← e2]; exact hlt)
    unfold cmpI
    rw [if_pos (by omega), if_pos (by omega)]
  · have : val b < val a := ofNat_len_lt (by rw [← e1, ← e2]; omega)
    rw [cmpI_gt (by omega), cmpI_gt (by omega)]
theorem cmpI_top {a b : List Nat} (ha : Dig a) (hb : Dig b) (hl : a.length = b.length) {j : Nat} (h : j < a.length) (he : val (a.drop (a.length - j)) = val (b.drop (a.length - j))) (hne : ((a.getD (a.length - 1 - j) 0 : Nat) : Int) ≠ ((b.getD (a.length - 1 - j) 0 : Nat) : Int)) :
    cmpI ((a.getD (a.length - 1 - j) 0 : Nat) : Int) ((b.getD (a.length - 1 - j) 0 : Nat) : Int) = cmpI ((val a : Nat) : Int) ((val b : Nat) : Int) := by
  have h1 := val_split a (a.length - (j + 1)) (by omega)
  have h2 := val_split b (a.length - (j + 1)) (by omega)
  rw [val_drop a j h] at h1
  have h3 := val_drop b j (by omega)
  rw [← hl] at h3
  rw [h3, ← he] at h2
  have h4 := val_lt (ha.take (a.length - (j + 1)))
  have h5 := val_lt (hb.take (a.length - (j + 1)))
  rw [List.length_take, Nat.min_eq_left (by omega)] at h4 h5
  generalize a.getD (a.length - 1 - j) 0 = x at *
  generalize b.getD (a.length - 1 - j) 0 = y at *
  generalize val (a.drop (a.length - j)) = t at *
  generalize pw (a.length - (j + 1)) = p at *
  generalize val (a.take (a.length - (j + 1))) = u at *
  generalize val (b.take (a.length - (j + 1))) = v at *
  rcases Nat.lt_or_gt_of_ne (show x ≠ y by omega) with hxy | hxy
  · have h6 : p * (x + 1000000000 * t) + p ≤ p * (y + 1000000000 * t) := by
      have := Nat.mul_le_mul_left p (show x + 1000000000 * t + 1 ≤ y + 1000000000 * t by omega)
      rw [Nat.mul_add, Nat.mul_one] at this
      exact this
    unfold cmpI
    rw [if_pos (by omega), if_pos (by omega)]
  · have h6 : p * (y + 1000000000 * t) + p ≤ p * (x + 1000000000 * t) := by
      have := Nat.mul_le_mul_left p (show y + 1000000000 * t + 1 ≤ x + 1000000000 * t by omega)
      rw [Nat.mul_add, Nat.mul_one] at this
      exact this
    rw [cmpI_gt (by omega), cmpI_gt (by omega)]
theorem cmpI_same {a b : List Nat} (he : val a = val b) : cmpI ((val a : Nat) : Int) ((val b : Nat) : Int) = 0 := by
  rw [he]; exact cmpI_eq (by omega) (by omega)
theorem ofNat_len3 {n : Nat} (h : n < 18446744073709551616) : (ofNat n).length ≤ 3 := ofNat_length_le (by
  rw [show (3 : Nat) = 0 + 1 + 1 + 1 from rfl, pw_succ, pw_succ, pw_succ, pw_zero]; omega)
theorem split_step {g : List Nat} {m n : Nat} (h : g ++ ofNat m = ofNat n) (hm : (0 : Int) < ((m : Nat) : Int)) : (g ++ [m % 1000000000]) ++ ofNat (m / 1000000000) = ofNat n := by
  rw [← h, ofNat_pos (n := m) (by omega), List.append_assoc]; rfl
theorem split_len {g : List Nat} {m n : Nat} (h : g ++ ofNat m = ofNat n) (hn : n < 18446744073709551616) : g.length ≤ 3 := by
  have := ofNat_len3 hn
  rw [← h, List.length_append] at this
  omega
theorem split_end {g : List Nat} {m n : Nat} (h : g ++ ofNat m = ofNat n) (hm : ¬ (0 : Int) < ((m : Nat) : Int)) : ofNat n = g := by
  have : m = 0 := by omega
  subst this
  rw [← h, ofNat_zero, List.append_nil]
def firstBig : List Nat → Int
  | [] => -1
  | d :: l => if 1000000000 ≤ d then 0 else if firstBig l < 0 then -1 else firstBig l + 1
theorem firstBig_none {l : List Nat} : firstBig l < 0 ↔ Dig l := by
  induction l with
  | nil => simp [firstBig, dig_nil]
  | cons d l ih =>
    rw [dig_cons]
    unfold firstBig
    by_cases h : 1000000000 ≤ d
    · rw [if_pos h]; constructor
      · intro h1; omega
      · intro h1; omega
    · rw [if_neg h]
      by_cases h2 : firstBig l < 0
      · rw [if_pos h2]; simp [ih.1 h2]; omega
      · rw [if_neg h2]; constructor
        · intro h1; omega
        · intro h1; exact absurd (ih.2 h1.2) h2
theorem firstBig_neg {l : List Nat} (h : Dig l) : firstBig l = -1 := by
  induction l with
  | nil => rfl
  | cons d l ih =>
    rw [dig_cons] at h
    unfold firstBig
    rw [if_neg (by omega), if_pos (firstBig_none.2 h.2)]
theorem firstBig_at : ∀ {l : List Nat} {i : Nat}, i < l.length → Dig (l.take i) → 1000000000 ≤ l.getD i 0 → firstBig l = (i : Int)
  | [], i, h, _, _ => by simp at h
  | d :: l, 0, _, _, hd => by
    unfold firstBig
    rw [if_pos (by simpa using hd)]; rfl
  | d :: l, i + 1, h, ht, hd => by
    rw [List.take_succ_cons, dig_cons] at ht
    have ih := firstBig_at (l := l) (i := i) (by simpa using h) ht.2 (by simpa using hd)
    unfold firstBig
    rw [if_neg (by omega), ih, if_neg (by omega)]
    omega
theorem dig_take_succ {l : List Nat} {i : Nat} (h : i < l.length) (ht : Dig (l.take i)) (hd : l.getD i 0 < 1000000000) : Dig (l.take (i + 1)) := by
  rw [List.take_succ_eq_append_getElem h, dig_append]
  refine ⟨ht, ?_⟩
  intro d hx
  simp [List.getD, List.getElem?_eq_getElem h] at hd hx
  rw [hx]; exact hd
def validI (x : RInt) : Bool := if ((x.gs.length : Nat) : Int) = 0 then !x.neg else (((((x.gs.getD (x.gs.length - 1) 0) : Nat) : Int) != 0) && (!(decide (0 ≤ firstBig x.gs))))
def grpI (x : RInt) : List Nat := if validI x = true then x.gs else []
theorem grpI_can (x : RInt) : Cano (grpI x) := by
  unfold grpI
  split
  · rename_i h
    unfold validI at h
    split at h
    · have : x.gs = [] := List.eq_nil_of_length_eq_zero (by omega)
      rw [this]; exact ⟨dig_nil, by simp [Top]⟩
    · rename_i h0
      simp only [Bool.and_eq_true, Bool.not_eq_true', decide_eq_false_iff_not, bne_iff_ne] at h
      refine ⟨firstBig_none.1 (by omega), fun h1 => h.1 ?_⟩
      have h4 : x.gs.length - 1 < x.gs.length := by omega
      simp [List.getD, List.getElem?_eq_getElem h4] at h1 ⊢
      exact h1
  · exact ⟨dig_nil, by simp [Top]⟩
def sgn (b : Bool) (n : Nat) : Int := if b then -(n : Int) else n
def toZ (x : RInt) : Int := sgn x.neg (val (grpI x))
def ofZ (z : Int) : RInt := mkI (decide (z < 0)) z.natAbs
theorem mkI_eq (b : Bool) (n : Nat) : mkI b n = ofZ (sgn b n) := by
  unfold ofZ sgn
  cases b with
  | false =>
    rw [if_neg (by simp), Int.natAbs_natCast]
    have : decide ((n : Int) < 0) = false := decide_eq_false (by omega)
    rw [this]
  | true =>
    rw [if_pos rfl, Int.natAbs_neg, Int.natAbs_natCast]
    unfold mkI
    by_cases h : n = 0
    · subst h; simp
    · have h1 : decide (-(n : Int) < 0) = true := decide_eq_true (by omega)
      rw [h1]
theorem grpI_len (x : RInt) : (grpI x).length ≤ x.gs.length := by
  unfold grpI; split
  · exact Nat.le_refl _
  · exact Nat.zero_le _
theorem add_len {a b : List Nat} (ha : Dig a) (hb : Dig b) : (ofNat (val a + val b)).length ≤ max a.length b.length + 1 := ofNat_length_le (by
  have h1 := val_lt ha
  have h2 := val_lt hb
  have h3 : pw a.length ≤ pw (max a.length b.length) := pw_mono (by omega)
  have h4 : pw b.length ≤ pw (max a.length b.length) := pw_mono (by omega)
  rw [pw_succ]; omega)
theorem sub_len {a b : List Nat} (ha : Dig a) : (ofNat (val a - val b)).length ≤ a.length := ofNat_length_le (by
  have h1 := val_lt ha
  omega)
def signI (z : Int) : Int := if z = 0 then 0 else if z < 0 then -1 else 1
theorem val_zero_nil {l : List Nat} (h : Cano l) (h0 : val l = 0) : l = [] := by rw [can_eq h, h0, ofNat_zero]
theorem toZ_nil {x : RInt} (h : (((grpI x).length : Nat) : Int) = 0) : toZ x = 0 := by
  have : grpI x = [] := List.eq_nil_of_length_eq_zero (by omega)
  unfold toZ sgn
  rw [this, val_nil]; split <;> rfl
theorem sign_neg {x : RInt} (h : (((grpI x).length : Nat) : Int) ≠ 0) (hn : x.neg = true) : signI (toZ x) = -1 := by
  have h1 : val (grpI x) ≠ 0 := fun e => h (by rw [val_zero_nil (grpI_can x) e]; rfl)
  unfold signI toZ sgn
  rw [if_pos hn, if_neg (by omega), if_pos (by omega)]
theorem sign_pos {x : RInt} (h : (((grpI x).length : Nat) : Int) ≠ 0) (hn : x.neg = false) : signI (toZ x) = 1 := by
  have h1 : val (grpI x) ≠ 0 := fun e => h (by rw [val_zero_nil (grpI_can x) e]; rfl)
  unfold signI toZ sgn
  rw [hn]
  simp only [Bool.false_eq_true, if_false]
  rw [if_neg (by omega), if_neg (by omega)]
theorem neg_eq (x : RInt) : mkI (!x.neg) (val (grpI x)) = ofZ (-toZ x) := by
  rw [mkI_eq]
  congr 1
  unfold toZ sgn
  cases x.neg <;> simp
theorem sum_same {b c : Bool} (h : b = c) (m n : Nat) : mkI b (val (ofNat (m + n))) = ofZ (sgn b m + sgn c n) := by
  subst h
  rw [mkI_eq, ofNat_val]
  congr 1
  unfold sgn
  cases b <;> simp <;> omega
theorem sum_first {b c : Bool} (h : b ≠ c) {m n : Nat} (hn : n ≤ m) : mkI b (val (ofNat (m - n))) = ofZ (sgn b m + sgn c n) := by
  have h1 : c = !b := by revert h; cases b <;> cases c <;> simp
  subst h1
  rw [mkI_eq, ofNat_val]
  congr 1
  unfold sgn
  cases b <;> simp <;> omega
theorem sum_second {b c : Bool} (h : b ≠ c) {m n : Nat} (hn : m ≤ n) : mkI c (val (ofNat (n - m))) = ofZ (sgn b m + sgn c n) := by
  have h1 : c = !b := by revert h; cases b <;> cases c <;> simp
  subst h1
  rw [mkI_eq, ofNat_val]
  congr 1
  unfold sgn
  cases b <;> simp <;> omega
theorem cmpI_ge {a b : Int} (h : 0 ≤ cmpI a b) : b ≤ a := by
  unfold cmpI at h
  split at h
  · omega
  · omega
theorem cmpI_lt {a b : Int} (h : ¬ 0 ≤ cmpI a b) : a < b := by
  unfold cmpI at h
  split at h
  · assumption
  · split at h <;> omega
theorem mul_eq {b c : Bool} (m n : Nat) : mkI (!(b == c)) (val (ofNat (m * n))) = ofZ (sgn b m * sgn c n) := by
  rw [mkI_eq, ofNat_val]
  congr 1
  unfold sgn
  cases b <;> cases c <;> simp [Int.neg_mul, Int.mul_neg]
theorem conv_u64 (n : Int) : IntKind.u64.wrap n = (((n % 18446744073709551616).toNat : Nat) : Int) := by
  have : IntKind.u64.wrap n = n % 18446744073709551616 := by
    simp [IntKind.wrap, IntKind.bits, IntKind.signed]
  rw [this]; omega
theorem neg_u64 {n : Int} (h : n < 0) (h1 : -9223372036854775808 ≤ n) : IntKind.u64.wrap (0 - (((n % 18446744073709551616).toNat : Nat) : Int)) = (((-n).toNat : Nat) : Int) := by
  have : IntKind.u64.wrap (0 - (((n % 18446744073709551616).toNat : Nat) : Int)) = (0 - (((n % 18446744073709551616).toNat : Nat) : Int)) % 18446744073709551616 := by
    simp [IntKind.wrap, IntKind.bits, IntKind.signed]
  rw [this]; omega
theorem of_neg {n : Int} (h : n < 0) : mkI (decide (n < 0)) (val (ofNat (-n).toNat)) = ofZ n := by
  rw [ofNat_val]
  unfold ofZ
  congr 1; omega
theorem of_pos {n : Int} (h : ¬ n < 0) (h1 : n ≤ 9223372036854775807) : mkI (decide (n < 0)) (val (ofNat (n % 18446744073709551616).toNat)) = ofZ n := by
  rw [ofNat_val]
  unfold ofZ
  congr 1; omega
theorem signI_range (z : Int) : (signI z = 0 ∧ z = 0) ∨ (signI z = -1 ∧ z < 0) ∨ (signI z = 1 ∧ 0 < z) := by
  unfold signI
  split
  · left; omega
  · split <;> omega
end Go.Fid
