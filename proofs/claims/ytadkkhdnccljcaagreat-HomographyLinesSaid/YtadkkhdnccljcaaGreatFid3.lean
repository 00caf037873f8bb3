/-
  More operations: addresses, lengths, numbers, conversions, parts, calls. For any program.
-/
import Derived.Test.YtadkkhdnccljcaaGreatFid2
namespace Go.Fid
open Go.RowKit (Below)
section
variable {P : Program} {o : Oper} {S : Nat → SV}
def fieldB (P : Program) (T : TypeId) (f : Nat) : Option Nat :=
  match P.underlying T with
  | some (.struct fs) => match fs[f]? with
    | some fl => match P.info? fl.type with
      | some i => if i.size = 0 then none else some fl.offset
      | none => none
    | none => none
  | _ => none
def elemB (P : Program) (T : TypeId) : Option (TypeId × Nat) :=
  match P.underlying T with
  | some (.slice E) => (P.info? E).map fun i => (E, i.size)
  | _ => none
def arrB (P : Program) (T : TypeId) : Option (Nat × TypeId × Nat) :=
  match P.underlying T with
  | some (.array n E) => (P.info? E).map fun i => (n, E, i.size)
  | _ => none
def intB (P : Program) (T : TypeId) : Option IntKind :=
  match P.underlying T with
  | some (.int k) => some k
  | _ => none
theorem field_of {T : TypeId} {f off : Nat} (h : fieldB P T f = some off) : ∃ fs fl i, P.underlying T = some (.struct fs) ∧ fs[f]? = some fl ∧ P.info? fl.type = some i ∧ i.size ≠ 0 ∧ fl.offset = off := by
  unfold fieldB at h
  split at h
  · rename_i fs hfs
    split at h
    · rename_i fl hfl
      split at h
      · rename_i i hi
        split at h
        · cases h
        · rename_i hne
          injection h with h
          exact ⟨fs, fl, i, hfs, hfl, hi, hne, h⟩
      · cases h
    · cases h
  · cases h
theorem elem_of {T E : TypeId} {s : Nat} (h : elemB P T = some (E, s)) : ∃ i, P.underlying T = some (.slice E) ∧ P.info? E = some i ∧ i.size = s := by
  unfold elemB at h
  split at h
  · rename_i E' hE
    rw [Option.map_eq_some_iff] at h
    obtain ⟨i, h1, h2⟩ := h
    simp only [Prod.mk.injEq] at h2
    obtain ⟨rfl, rfl⟩ := h2
    exact ⟨i, hE, h1, rfl⟩
  · cases h
theorem arr_of {T E : TypeId} {n s : Nat} (h : arrB P T = some (n, E, s)) : ∃ i, P.underlying T = some (.array n E) ∧ P.info? E = some i ∧ i.size = s := by
  unfold arrB at h
  split at h
  · rename_i n' E' hE
    rw [Option.map_eq_some_iff] at h
    obtain ⟨i, h1, h2⟩ := h
    simp only [Prod.mk.injEq] at h2
    obtain ⟨rfl, rfl, rfl⟩ := h2
    exact ⟨i, hE, h1, rfl⟩
  · cases h
theorem int_of {T : TypeId} {k : IntKind} (h : intB P T = some k) : P.underlying T = some (.int k) := by
  unfold intB at h
  split at h
  · rename_i k' hk
    injection h with h
    rw [hk, h]
  · cases h
theorem run_fieldAt {T : TypeId} {f off : Nat} (h : fieldB P T f = some off) (w : World) (a : Addr) : (Instr.fieldAt T (.pointer (some a)) f).run P w = .ok (.pointer (some (a.add off))) w := by
  obtain ⟨fs, fl, i, h1, h2, h3, h4, h5⟩ := field_of h
  simp [Instr.fieldAt, run_underlying h1, h2, Instr.sureAddr, fieldPlace, run_sizeOf h3, h4, h5]
theorem e_fieldAddr_ref {T : TypeId} {x : Operand} {f off k p : Nat} (ho : o.op = .fieldAddr T x f) (hx : ev S x = .ref k p) (hf : fieldB P T f = some off) : EOk P o S [] (.ref k (p + off)) :=
  EOk.same fun a w D β hop _ => by
    have hp := hop x (by simp [ho, Op.operands])
    rw [hx] at hp
    obtain ⟨b, hb, hv⟩ := hp
    exact ⟨.pointer (some ⟨b, p + off, none⟩), by simp [execOp, ho, hv, run_fieldAt hf, Addr.add_lit], b, hb, rfl⟩
theorem run_indexAt_sl {T E : TypeId} {s : Nat} (h : elemB P T = some (E, s)) (w : World) (a : Addr) (n cap : Nat) (k : IntKind) (i : Int) (h0 : 0 ≤ i) (h1 : i < n) :
    (Instr.indexAt T (.slice (some a) n cap) (.int k i)).run P w = .ok (.pointer (some (a.add (i.toNat * s)))) w := by
  obtain ⟨j, e1, e2, e3⟩ := elem_of h
  simp [Instr.indexAt, run_underlying e1, asIntOf, h0, h1, run_sizeOf e2, e3]
theorem run_indexAt_arr {T E : TypeId} {n s : Nat} (h : arrB P T = some (n, E, s)) (w : World) (a : Addr) (k : IntKind) (i : Int) (h0 : 0 ≤ i) (h1 : i < n) :
    (Instr.indexAt T (.pointer (some a)) (.int k i)).run P w = .ok (.pointer (some (a.add (i.toNat * s)))) w := by
  obtain ⟨j, e1, e2, e3⟩ := arr_of h
  simp [Instr.indexAt, run_underlying e1, asIntOf, Instr.sureAddr, h0, h1, run_sizeOf e2, e3]
theorem e_index_sl {T E t : TypeId} {x ix : Operand} {s : Nat} {es : List Dat} {k : IntKind} {i : Int} {e : Dat} (ho : o.op = .indexAddr T x ix) (hT : elemB P T = some (E, s)) (hx : ev S x = .d (.sl t s es)) (hi : ev S ix = .d (.val (.int k i)))
    (h0 : 0 ≤ i) (he : es[i.toNat]? = some e) : EOk P o S [] (.d (.cptr t e.cells 0)) :=
  EOk.same fun a w D β hop _ => by
    have hp := hop x (by simp [ho, Op.operands])
    have hq := hop ix (by simp [ho, Op.operands])
    rw [hx] at hp
    rw [hi] at hq
    have hiv := rep_val hq
    have hlt : i.toNat < es.length := (List.getElem?_eq_some_iff.1 he).1
    generalize hvv : a.eval x = v at hp
    cases hp with
    | sl g off u hn hc hm hs ha hD hu h1 hr =>
      rename_i ad n cap
      have hse := hs e (List.mem_of_getElem? he)
      have had := ha (by omega)
      subst had
      have hfl := flat_length hs
      have hle : i.toNat * s + s ≤ (flat es).length := by
        rw [hfl]
        have := Nat.mul_le_mul_right s (show i.toNat + 1 ≤ es.length by omega)
        rw [Nat.add_mul] at this; omega
      refine ⟨.pointer (some ⟨g, (off + i.toNat * s) + 0, none⟩), ?_, Rep.cptr (cs := e.cells) g (off + i.toNat * s) (fun j => u (i.toNat * s + j)) (fun j hj => ?_) (fun j hj => ?_) (fun j hj => ?_) (fun j d hd => ?_)⟩
      · simp [execOp, ho, hvv, hiv, run_indexAt_sl hT w ⟨g, off, none⟩ n cap k i h0 (by omega), Addr.add_lit]
      · rw [Nat.add_assoc]; exact hD _ (by omega)
      · rw [Nat.add_assoc]; exact hu _ (by omega)
      · exact h1 _ (by omega)
      · have hj : j < s := by have := (List.getElem?_eq_some_iff.1 hd).1; omega
        exact hr _ _ ((flat_get hs he hj).trans hd)
theorem e_index_own {T E t : TypeId} {x ix : Operand} {s b n : Nat} {k : IntKind} {i : Int} (ho : o.op = .indexAddr T x ix) (hT : elemB P T = some (E, s)) (hx : ev S x = .own b t s n) (hi : ev S ix = .d (.val (.int k i)))
    (h0 : 0 ≤ i) (h1 : i < n) : EOk P o S [] (.ref b (i.toNat * s)) :=
  EOk.same fun a w D β hop _ => by
    have hp := hop x (by simp [ho, Op.operands])
    have hq := hop ix (by simp [ho, Op.operands])
    rw [hx] at hp
    rw [hi] at hq
    have hiv := rep_val hq
    rcases hp with ⟨_, h3, _⟩ | ⟨c, cap, vs, e1, e2, _⟩
    · omega
    · exact ⟨.pointer (some ⟨c, i.toNat * s, none⟩), by simp [execOp, ho, e2, hiv, run_indexAt_sl hT w ⟨c, 0, none⟩ n cap k i h0 h1, Addr.add_lit], c, e1, rfl⟩
theorem e_index_aref {T E : TypeId} {x ix : Operand} {s b n p : Nat} {k : IntKind} {i : Int} (ho : o.op = .indexAddr T x ix) (hT : arrB P T = some (n, E, s)) (hx : ev S x = .ref b p) (hi : ev S ix = .d (.val (.int k i)))
    (h0 : 0 ≤ i) (h1 : i < n) : EOk P o S [] (.ref b (p + i.toNat * s)) :=
  EOk.same fun a w D β hop _ => by
    have hp := hop x (by simp [ho, Op.operands])
    have hq := hop ix (by simp [ho, Op.operands])
    rw [hx] at hp
    rw [hi] at hq
    have hiv := rep_val hq
    obtain ⟨c, e1, e2⟩ := hp
    exact ⟨.pointer (some ⟨c, p + i.toNat * s, none⟩), by simp [execOp, ho, e2, hiv, run_indexAt_arr hT w ⟨c, p, none⟩ k i h0 h1, Addr.add_lit], c, e1, rfl⟩
theorem e_len_sl {T E t : TypeId} {x : Operand} {s : Nat} {es : List Dat} (ho : o.op = .call { callee := .builtin .len, args := #[x], argTypes := #[T] }) (hT : elemB P T = some (E, s)) (hx : ev S x = .d (.sl t s es)) : EOk P o S [] (.d (.val (.int .i64 es.length))) :=
  EOk.same fun a w D β hop _ => by
    have hp := hop x (by simp [ho, Op.operands, Call.operands])
    rw [hx] at hp
    obtain ⟨i, e1, e2, e3⟩ := elem_of hT
    generalize hvv : a.eval x = v at hp
    cases hp with
    | sl g off u hn hc hm hs ha hD hu h1 hr =>
      subst hn
      exact ⟨.int .i64 es.length, by simp [execOp, ho, resolve, invoke, builtin, hvv, Builtin.len_, run_underlying e1, goInt], .val _⟩
theorem e_len_own {T E t : TypeId} {x : Operand} {s k n : Nat} (ho : o.op = .call { callee := .builtin .len, args := #[x], argTypes := #[T] }) (hT : elemB P T = some (E, s)) (hx : ev S x = .own k t s n) : EOk P o S [] (.d (.val (.int .i64 n))) :=
  EOk.same fun a w D β hop _ => by
    have hp := hop x (by simp [ho, Op.operands, Call.operands])
    rw [hx] at hp
    obtain ⟨i, e1, e2, e3⟩ := elem_of hT
    have : ∃ q cap, a.eval x = .slice q n cap := by
      rcases hp with ⟨_, h3, h4⟩ | ⟨c, cap, vs, _, h4, _⟩
      · subst h3; exact ⟨_, _, h4⟩
      · exact ⟨_, _, h4⟩
    obtain ⟨q, cap, hv⟩ := this
    exact ⟨.int .i64 n, by simp [execOp, ho, resolve, invoke, builtin, hv, Builtin.len_, run_underlying e1, goInt], .val _⟩
theorem e_not {T : TypeId} {x : Operand} {b : Bool} (ho : o.op = .unOp .not T x) (hx : ev S x = .d (.val (.bool b))) : EOk P o S [] (.d (.val (.bool !b))) :=
  EOk.same fun a w D β hop _ => by
    have hp := hop x (by simp [ho, Op.operands])
    rw [hx] at hp
    have hv := rep_val hp
    exact ⟨.bool !b, by simp [execOp, ho, hv, Op.unary], .val _⟩
theorem e_neg {T : TypeId} {x : Operand} {k : IntKind} {n r : Int} (ho : o.op = .unOp .neg T x) (hx : ev S x = .d (.val (.int k n))) (hr : k.wrap (0 - n) = r) : EOk P o S [] (.d (.val (.int k r))) :=
  EOk.same fun a w D β hop _ => by
    have hp := hop x (by simp [ho, Op.operands])
    rw [hx] at hp
    have hv := rep_val hp
    exact ⟨.int k r, by simp only [execOp, ho, hv, Op.unary, Op.intArith]; rw [hr]; rfl, .val _⟩
theorem ints2 {a : Act} {w : World} {D : DSet} {β : BMap} {x y : Operand} {op : BinOp} {T T' : TypeId} {u v : Value} (ho : o.op = .binOp op T x y T') (hop : Opnds w D β a o S) (hx : ev S x = .d (.val u)) (hy : ev S y = .d (.val v)) : a.eval x = u ∧ a.eval y = v := by
  have h1 := hop x (by simp [ho, Op.operands])
  have h2 := hop y (by simp [ho, Op.operands])
  rw [hx] at h1
  rw [hy] at h2
  exact ⟨rep_val h1, rep_val h2⟩
theorem e_bin {op : BinOp} {T T' : TypeId} {x y : Operand} {u v r : Value} (ho : o.op = .binOp op T x y T') (hx : ev S x = .d (.val u)) (hy : ev S y = .d (.val v)) (hg : eqGuard op T x y u v = pure ()) (hr : ∀ w, (binOp op T u v).run P w = .ok r w) : EOk P o S [] (.d (.val r)) :=
  EOk.same fun a w D β hop _ => by
    obtain ⟨h1, h2⟩ := ints2 ho hop hx hy
    exact ⟨r, by simp [execOp, ho, h1, h2, hg, hr], .val _⟩
section ints
variable {T T' : TypeId} {x y : Operand} {k : IntKind} {m n r : Int}
theorem e_add (ho : o.op = .binOp .add T x y T') (hx : ev S x = .d (.val (.int k m))) (hy : ev S y = .d (.val (.int k n))) (hr : k.wrap (m + n) = r) : EOk P o S [] (.d (.val (.int k r))) :=
  e_bin ho hx hy rfl fun w => by subst hr; simp [binOp, Op.intArith]
theorem e_sub (ho : o.op = .binOp .sub T x y T') (hx : ev S x = .d (.val (.int k m))) (hy : ev S y = .d (.val (.int k n))) (hr : k.wrap (m - n) = r) : EOk P o S [] (.d (.val (.int k r))) :=
  e_bin ho hx hy rfl fun w => by subst hr; simp [binOp, Op.intArith]
theorem e_mul (ho : o.op = .binOp .mul T x y T') (hx : ev S x = .d (.val (.int k m))) (hy : ev S y = .d (.val (.int k n))) (hr : k.wrap (m * n) = r) : EOk P o S [] (.d (.val (.int k r))) :=
  e_bin ho hx hy rfl fun w => by subst hr; simp [binOp, Op.intArith]
theorem e_quo (ho : o.op = .binOp .quo T x y T') (hx : ev S x = .d (.val (.int k m))) (hy : ev S y = .d (.val (.int k n))) (h0 : n ≠ 0) (hr : k.wrap (m.tdiv n) = r) : EOk P o S [] (.d (.val (.int k r))) :=
  e_bin ho hx hy rfl fun w => by subst hr; simp [binOp, Op.intDiv, h0]
theorem e_rem (ho : o.op = .binOp .rem T x y T') (hx : ev S x = .d (.val (.int k m))) (hy : ev S y = .d (.val (.int k n))) (h0 : n ≠ 0) (hr : m.tmod n = r) : EOk P o S [] (.d (.val (.int k r))) :=
  e_bin ho hx hy rfl fun w => by subst hr; simp [binOp, Op.intDiv, h0]
theorem e_eql (ho : o.op = .binOp .eql T x y T') (hx : ev S x = .d (.val (.int k m))) (hy : ev S y = .d (.val (.int k n))) : EOk P o S [] (.d (.val (.bool (m == n)))) :=
  e_bin ho hx hy (by simp [eqGuard]) fun w => by simp [binOp, Op.intCmp]
theorem e_neq (ho : o.op = .binOp .neq T x y T') (hx : ev S x = .d (.val (.int k m))) (hy : ev S y = .d (.val (.int k n))) : EOk P o S [] (.d (.val (.bool (m != n)))) :=
  e_bin ho hx hy (by simp [eqGuard]) fun w => by simp [binOp, Op.intCmp]
theorem e_lss (ho : o.op = .binOp .lss T x y T') (hx : ev S x = .d (.val (.int k m))) (hy : ev S y = .d (.val (.int k n))) : EOk P o S [] (.d (.val (.bool (decide (m < n))))) :=
  e_bin ho hx hy rfl fun w => by simp [binOp, Op.intCmp]
theorem e_leq (ho : o.op = .binOp .leq T x y T') (hx : ev S x = .d (.val (.int k m))) (hy : ev S y = .d (.val (.int k n))) : EOk P o S [] (.d (.val (.bool (decide (m ≤ n))))) :=
  e_bin ho hx hy rfl fun w => by simp [binOp, Op.intCmp]
theorem e_gtr (ho : o.op = .binOp .gtr T x y T') (hx : ev S x = .d (.val (.int k m))) (hy : ev S y = .d (.val (.int k n))) : EOk P o S [] (.d (.val (.bool (decide (n < m))))) :=
  e_bin ho hx hy rfl fun w => by simp [binOp, Op.intCmp]
theorem e_geq (ho : o.op = .binOp .geq T x y T') (hx : ev S x = .d (.val (.int k m))) (hy : ev S y = .d (.val (.int k n))) : EOk P o S [] (.d (.val (.bool (decide (n ≤ m))))) :=
  e_bin ho hx hy rfl fun w => by simp [binOp, Op.intCmp]
end ints
def boolB (P : Program) (T : TypeId) : Bool :=
  match P.underlying T with
  | some .bool => true
  | _ => false
theorem bool_of {T : TypeId} (h : boolB P T = true) : P.underlying T = some .bool := by
  unfold boolB at h
  split at h
  · assumption
  · cases h
theorem run_equal_bool {T : TypeId} (hT : boolB P T = true) (p q : Bool) (w : World) : (Op.equal T (.bool p) (.bool q)).run P w = .ok (p == q) w := by
  have hd := bool_of hT
  have : ∀ d : Nat, (Op.equalIn (d + 1) T (.bool p) (.bool q)).run P w = .ok (p == q) w := fun d => by
    simp [Op.equalIn, run_underlying hd]
  exact this 9999
theorem e_eqlb {T T' : TypeId} {x y : Operand} {p q : Bool} (ho : o.op = .binOp .eql T x y T') (hT : boolB P T = true) (hx : ev S x = .d (.val (.bool p))) (hy : ev S y = .d (.val (.bool q))) : EOk P o S [] (.d (.val (.bool (p == q)))) :=
  e_bin ho hx hy (by simp [eqGuard]) fun w => by simp [binOp, run_equal_bool hT]
theorem e_neqb {T T' : TypeId} {x y : Operand} {p q : Bool} (ho : o.op = .binOp .neq T x y T') (hT : boolB P T = true) (hx : ev S x = .d (.val (.bool p))) (hy : ev S y = .d (.val (.bool q))) : EOk P o S [] (.d (.val (.bool (!(p == q))))) :=
  e_bin ho hx hy (by simp [eqGuard]) fun w => by simp [binOp, run_equal_bool hT]
theorem e_conv {src dst : TypeId} {x : Operand} {k l : IntKind} {n r : Int} (ho : o.op = .convert src dst x) (hs : (P.underlying src).isSome = true) (hd : intB P dst = some l) (hx : ev S x = .d (.val (.int k n))) (hr : l.wrap n = r) : EOk P o S [] (.d (.val (.int l r))) :=
  EOk.same fun a w D β hop _ => by
    have hp := hop x (by simp [ho, Op.operands])
    rw [hx] at hp
    have hv := rep_val hp
    obtain ⟨d, hd'⟩ := Option.isSome_iff_exists.mp hs
    refine ⟨.int l r, ?_, .val _⟩
    subst hr
    simp [execOp, ho, hv, convert, run_underlying hd', run_underlying (int_of hd), Conv.intToInt]
theorem e_max {T T' : TypeId} {x y : Operand} {k : IntKind} {m n : Int} (ho : o.op = .call { callee := .builtin .max, args := #[x, y], argTypes := #[T, T'] }) (hx : ev S x = .d (.val (.int k m))) (hy : ev S y = .d (.val (.int k n))) : EOk P o S [] (.d (.val (.int k (if m < n then n else m)))) :=
  EOk.same fun a w D β hop _ => by
    have h1 := hop x (by simp [ho, Op.operands, Call.operands])
    have h2 := hop y (by simp [ho, Op.operands, Call.operands])
    rw [hx] at h1
    rw [hy] at h2
    have e1 := rep_val h1
    have e2 := rep_val h2
    exact ⟨_, by simp [execOp, ho, resolve, invoke, builtin, e1, e2, Builtin.max_, Builtin.max2], .val _⟩
theorem rep_agg {w : World} {D : DSet} {v : Value} {cs : List Dat} (h : Rep w D v (.agg cs)) :
    ∃ vs : List Value, v = .agg vs.toArray ∧ vs.length = cs.length ∧ (∀ v ∈ vs, v.oneCell' = true) ∧ ∀ (i : Nat) v d, vs[i]? = some v → cs[i]? = some d → Rep w D v d := by
  cases h with
  | agg vs hl h1 hr => exact ⟨vs, rfl, hl, h1, hr⟩
theorem rep_tup {w : World} {D : DSet} {v : Value} {cs : List Dat} (h : Rep w D v (.tup cs)) :
    ∃ vs : List Value, v = .tuple vs.toArray ∧ vs.length = cs.length ∧ ∀ (i : Nat) v d, vs[i]? = some v → cs[i]? = some d → Rep w D v d := by
  cases h with
  | tup vs hl hr => exact ⟨vs, rfl, hl, hr⟩
theorem e_extract {x : Operand} {i : Nat} {ds : List Dat} {d : Dat} (ho : o.op = .extract x i) (hx : ev S x = .d (.tup ds)) (hd : ds[i]? = some d) : EOk P o S [] (.d d) :=
  EOk.same fun a w D β hop _ => by
    have hp := hop x (by simp [ho, Op.operands])
    rw [hx] at hp
    obtain ⟨vs, hv, hl, hr⟩ := rep_tup hp
    have hi : i < vs.length := by rw [hl]; exact (List.getElem?_eq_some_iff.1 hd).1
    exact ⟨vs[i], by simp [execOp, ho, hv, Instr.extract, List.getElem?_eq_getElem hi], hr i _ _ (List.getElem?_eq_getElem hi) hd⟩
theorem run_part {t : TypeId} {agg : Bool} {sz : Nat} (hs : shapeB P t = some (agg, sz)) (h1 : agg = false → sz = 1) (w : World) (D : DSet) {β : BMap} (vs : List Value) (cs : List Dat) (off : Nat) (hl : vs.length = cs.length) (hone : ∀ v ∈ vs, v.oneCell' = true)
    (hr : ∀ (i : Nat) v d, vs[i]? = some v → cs[i]? = some d → Rep w D v d) (hle : off + sz ≤ cs.length) : ∃ v, (part t vs.toArray off).run P w = .ok v w ∧ RepS w D β v (gather agg (((cs.drop off).take sz).map .d)) := by
  obtain ⟨d, i, e1, e2, e3, e4⟩ := shape_of hs
  cases agg with
  | true =>
    refine ⟨.agg ((vs.drop off).take sz).toArray, ?_, repS_agg (by simp; omega) (fun v hv => hone v (List.mem_of_mem_drop (List.mem_of_mem_take hv))) (fun j v y hv hy => ?_)⟩
    · simp only [part, Sem.run_bind, run_isAgg e1, e3, Result.andThen_ok, if_true, run_sizeOf e2, e4, Sem.run_pure]
      congr 2
      simp [List.extract_eq_take_drop]
    · have hj : j < sz := by
        have := (List.getElem?_eq_some_iff.1 hv).1
        simp at this; omega
      rw [List.getElem?_map, Option.map_eq_some_iff] at hy
      obtain ⟨z, hz, rfl⟩ := hy
      rw [List.getElem?_take_of_lt hj, List.getElem?_drop] at hv hz
      exact hr _ _ _ hv hz
  | false =>
    obtain rfl := h1 rfl
    have hlt : off < cs.length := by omega
    have hlt' : off < vs.length := by omega
    refine ⟨vs[off], by simp [part, run_isAgg e1, e3, List.getElem?_eq_getElem hlt'], ?_⟩
    have : ((cs.drop off).take 1).map SV.d = [.d cs[off]] := by
      rw [List.drop_eq_getElem_cons hlt]; rfl
    rw [this]
    exact hr _ _ _ (List.getElem?_eq_getElem hlt') (List.getElem?_eq_getElem hlt)
def fieldT (P : Program) (T : TypeId) (f : Nat) : Option (Nat × TypeId) :=
  match P.underlying T with
  | some (.struct fs) => (fs[f]?).map fun fl => (fl.offset, fl.type)
  | _ => none
theorem fieldT_of {T t : TypeId} {f off : Nat} (h : fieldT P T f = some (off, t)) : ∃ fs fl, P.underlying T = some (.struct fs) ∧ fs[f]? = some fl ∧ fl.offset = off ∧ fl.type = t := by
  unfold fieldT at h
  split at h
  · rename_i fs hfs
    rw [Option.map_eq_some_iff] at h
    obtain ⟨fl, h1, h2⟩ := h
    simp only [Prod.mk.injEq] at h2
    exact ⟨fs, fl, hfs, h1, h2.1, h2.2⟩
  · cases h
theorem e_field {T t : TypeId} {x : Operand} {f off sz : Nat} {agg : Bool} {cs : List Dat} (ho : o.op = .field T x f) (hx : ev S x = .d (.agg cs)) (hf : fieldT P T f = some (off, t)) (hs : shapeB P t = some (agg, sz)) (h1 : agg = false → sz = 1) (hle : off + sz ≤ cs.length) :
    EOk P o S [] (gather agg (((cs.drop off).take sz).map .d)) :=
  EOk.same fun a w D β hop _ => by
    have hp := hop x (by simp [ho, Op.operands])
    rw [hx] at hp
    obtain ⟨vs, hv, hl, hone, hr⟩ := rep_agg hp
    obtain ⟨fs, fl, e1, e2, e3, e4⟩ := fieldT_of hf
    subst e3; subst e4
    obtain ⟨v, h2, h3⟩ := run_part (β := β) hs h1 w D vs cs fl.offset hl hone hr hle
    exact ⟨v, by simp [execOp, ho, hv, Instr.field, run_underlying e1, e2, asAgg, h2], h3⟩
theorem e_index_arr {T E : TypeId} {x ix : Operand} {n s sz : Nat} {agg : Bool} {k : IntKind} {i : Int} {cs : List Dat} (ho : o.op = .index T x ix) (hx : ev S x = .d (.agg cs)) (hT : arrB P T = some (n, E, s)) (hs : shapeB P E = some (agg, sz)) (h1 : agg = false → sz = 1)
    (hi : ev S ix = .d (.val (.int k i))) (h0 : 0 ≤ i) (hn : i < n) (hle : i.toNat * s + sz ≤ cs.length) : EOk P o S [] (gather agg (((cs.drop (i.toNat * s)).take sz).map .d)) :=
  EOk.same fun a w D β hop _ => by
    have hp := hop x (by simp [ho, Op.operands])
    have hq := hop ix (by simp [ho, Op.operands])
    rw [hx] at hp
    rw [hi] at hq
    have hiv := rep_val hq
    obtain ⟨vs, hv, hl, hone, hr⟩ := rep_agg hp
    obtain ⟨j, e1, e2, e3⟩ := arr_of hT
    obtain ⟨v, h2, h3⟩ := run_part (β := β) hs h1 w D vs cs (i.toNat * s) hl hone hr hle
    exact ⟨v, by simp [execOp, ho, hv, hiv, Instr.index, asIntOf, run_underlying e1, h0, hn, run_sizeOf e2, e3, h2], h3⟩
end
end Go.Fid
