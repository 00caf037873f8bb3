/-
  The rules as a printer of proofs wants them: results written out. For any program.
-/
import Derived.Test.YtadkkhdnccljcaaGreatFid9
namespace Go.Fid
open Go.RowKit (Below)
section
variable {P : Program} {n : Fr} {ops : Array Oper} {S S' : SL} {B B' : BS} {l : List Oper} {o : Oper} {news : List Nat} {acc0 : List (List Nat × List Nat)}
end
section
variable {P : Program} {o : Oper} {S : Nat → SV}
theorem e_lda {T : TypeId} {x : Operand} {k off sz : Nat} {cs : List SV} {y : SV} (ho : o.op = .load T x) (hx : ev S x = .ref k off) (hs : shapeB P T = some (true, sz)) (hl : Nat.ble (off + sz) cs.length = true) (hy : gather true ((cs.drop off).take sz) = y) : EOk P o S [(k, cs)] y :=
  hy ▸ e_load_ref ho hx hs (fun h => by cases h) (Nat.le_of_ble_eq_true hl)
theorem e_ld1 {T : TypeId} {x : Operand} {k off : Nat} {cs : List SV} {y : SV} (ho : o.op = .load T x) (hx : ev S x = .ref k off) (hs : shapeB P T = some (false, 1)) (hy : cs[off]? = some y) : EOk P o S [(k, cs)] y := by
  have hlt := (List.getElem?_eq_some_iff.1 hy).1
  have h := e_load_ref (P := P) (cs := cs) ho hx hs (fun _ => rfl) (by omega)
  have e : (cs.drop off).take 1 = [y] := by
    rw [List.drop_eq_getElem_cons hlt]
    have : cs[off] = y := (List.getElem?_eq_some_iff.1 hy).2
    simp [this]
  rw [e] at h
  exact h
theorem e_lca {T t : TypeId} {x : Operand} {off sz : Nat} {cs : List Dat} {y : SV} (ho : o.op = .load T x) (hx : ev S x = .d (.cptr t cs off)) (hs : shapeB P T = some (true, sz)) (hl : Nat.ble (off + sz) cs.length = true) (hy : gather true (((cs.drop off).take sz).map .d) = y) : EOk P o S [] y :=
  hy ▸ e_load_cptr ho hx hs (fun h => by cases h) (Nat.le_of_ble_eq_true hl)
theorem e_lc1 {T t : TypeId} {x : Operand} {off : Nat} {cs : List Dat} {y : Dat} (ho : o.op = .load T x) (hx : ev S x = .d (.cptr t cs off)) (hs : shapeB P T = some (false, 1)) (hy : cs[off]? = some y) : EOk P o S [] (.d y) := by
  have hlt := (List.getElem?_eq_some_iff.1 hy).1
  have h := e_load_cptr (P := P) (cs := cs) ho hx hs (fun _ => rfl) (by omega)
  have e : ((cs.drop off).take 1).map SV.d = [.d y] := by
    rw [List.drop_eq_getElem_cons hlt]
    have : cs[off] = y := (List.getElem?_eq_some_iff.1 hy).2
    simp [this]
  rw [e] at h
  exact h
theorem e_pkt {c x y : Operand} {z : SV} (ho : o.op = .pick c x y) (hc : ev S c = .d (.val (.bool true))) (hx : ev S x = z) : EOk P o S [] z := by
  have := e_pick (P := P) ho hc
  simpa [hx] using this
theorem e_pkf {c x y : Operand} {z : SV} (ho : o.op = .pick c x y) (hc : ev S c = .d (.val (.bool false))) (hy : ev S y = z) : EOk P o S [] z := by
  have := e_pick (P := P) ho hc
  simpa [hy] using this
theorem e_ixs {T E t : TypeId} {x ix : Operand} {s : Nat} {es : List Dat} {k : IntKind} {i : Int} {j : Nat} {cs : List Dat} (ho : o.op = .indexAddr T x ix) (hT : elemB P T = some (E, s)) (hx : ev S x = .d (.sl t s es)) (hi : ev S ix = .d (.val (.int k i)))
    (hj : i = (j : Int)) (he : es[j]?.map Dat.cells = some cs) : EOk P o S [] (.d (.cptr t cs 0)) := by
  subst hj
  rw [Option.map_eq_some_iff] at he
  obtain ⟨e, h1, rfl⟩ := he
  exact e_index_sl ho hT hx hi (by omega) (by simpa using h1)
theorem e_ixo {T E t : TypeId} {x ix : Operand} {s b n q : Nat} {k : IntKind} {i : Int} {j : Nat} (ho : o.op = .indexAddr T x ix) (hT : elemB P T = some (E, s)) (hx : ev S x = .own b t s n) (hi : ev S ix = .d (.val (.int k i)))
    (hj : i = (j : Int)) (h1 : j < n) (hq : j * s = q) : EOk P o S [] (.ref b q) := by
  subst hj; subst hq
  have h := e_index_own (P := P) ho hT hx hi (by omega) (by omega)
  simpa using h
theorem e_ixar {T E : TypeId} {x ix : Operand} {s b n p q : Nat} {k : IntKind} {i : Int} {j : Nat} (ho : o.op = .indexAddr T x ix) (hT : arrB P T = some (n, E, s)) (hx : ev S x = .ref b p) (hi : ev S ix = .d (.val (.int k i)))
    (hj : i = (j : Int)) (h1 : j < n) (hq : p + j * s = q) : EOk P o S [] (.ref b q) := by
  subst hj; subst hq
  have h := e_index_aref (P := P) ho hT hx hi (by omega) (by omega)
  simpa using h
theorem e_exD {x : Operand} {i : Nat} {ds : List Dat} {d : Dat} (ho : o.op = .extract x i) (hx : ev S x = .d (.tup ds)) (hd : ds[i]? = some d) : EOk P o S [] (.d d) := e_extract ho hx hd
theorem e_fld1 {T t : TypeId} {x : Operand} {f off : Nat} {cs : List Dat} {y : SV} (ho : o.op = .field T x f) (hx : ev S x = .d (.agg cs)) (hf : fieldT P T f = some (off, t)) (hs : shapeB P t = some (false, 1)) (hle : Nat.ble (off + 1) cs.length = true) (hy : gather false (((cs.drop off).take 1).map .d) = y) : EOk P o S [] y :=
  hy ▸ e_field ho hx hf hs (fun _ => rfl) (Nat.le_of_ble_eq_true hle)
theorem t_std {T : TypeId} {x y : Operand} {k off sz : Nat} {agg : Bool} {old cs : List SV} {d : Dat} (ho : o.op = .store T x y) (hx : ev S x = .ref k off) (hy : ev S y = .d d) (hs : shapeB P T = some (agg, sz)) (h1 : d.ok1 = true) (hlen : d.cells.length = sz) (hle : Nat.ble (off + sz) old.length = true)
    (hc : patch old off (d.cells.map .d) = cs) : TOk P o S k old cs := hc ▸ t_store ho hx hy hs (.inl ⟨d, rfl, h1, rfl⟩) (by simpa using hlen) (Nat.le_of_ble_eq_true hle)
theorem t_st1 {T : TypeId} {x y : Operand} {k off : Nat} {old cs : List SV} {d : Dat} (ho : o.op = .store T x y) (hx : ev S x = .ref k off) (hy : ev S y = .d d) (hs : shapeB P T = some (false, 1)) (h1 : d.ok1 = true) (hcl : d.cells = [d]) (hle : off < old.length) (hc : old.set off (.d d) = cs) : TOk P o S k old cs := by
  have h := t_store (P := P) (old := old) ho hx hy hs (.inl ⟨d, rfl, h1, rfl⟩) (by simp [hcl]) (by omega)
  have e : patch old off (d.cells.map .d) = old.set off (.d d) := by
    rw [hcl]
    apply List.ext_getElem?
    intro i
    rw [patch_get (by simp; omega), List.getElem?_set]
    simp only [List.map_cons, List.map_nil, List.length_cons, List.length_nil, Nat.zero_add]
    by_cases c1 : i < off
    · rw [if_pos c1, if_neg (by omega)]
    · rw [if_neg c1]
      by_cases c2 : off = i
      · subst c2; simp [hle]
      · rw [if_neg (by omega), if_neg c2]
  rw [e, hc] at h
  exact h
theorem e_cl {y : Operand} {xs : List Operand} {ats : Array TypeId} {f : FuncId} {ds : List Dat} {r : Dat} (hf : Takes P f ds r) (ho : o.op = .call { callee := .value y, args := xs.toArray, argTypes := ats }) (hy : ev S y = .d (.val (.func (.func f) #[] #[]))) (hx : xs.map (ev S) = ds.map .d) : EOk P o S [] (.d r) := e_call ho hy hx hf
end
theorem wi64 {m r : Int} (h : m = r) (h1 : -9223372036854775808 ≤ r) (h2 : r ≤ 9223372036854775807) : IntKind.i64.wrap m = r := by
  subst h
  rw [IntKind.wrap_i64]; omega
theorem wu64 {m r : Int} (h : m = r) (h1 : 0 ≤ r) (h2 : r ≤ 18446744073709551615) : IntKind.u64.wrap m = r := by
  subst h
  have : IntKind.u64.wrap m = m % 18446744073709551616 := by
    simp [IntKind.wrap, IntKind.bits, IntKind.signed]
  rw [this]; omega
theorem wu32 {m r : Int} (h : m = r) (h1 : 0 ≤ r) (h2 : r ≤ 4294967295) : IntKind.u32.wrap m = r := by
  subst h
  have : IntKind.u32.wrap m = m % 4294967296 := by
    simp [IntKind.wrap, IntKind.bits, IntKind.signed]
  rw [this]; omega
theorem wu8 {m r : Int} (h : m = r) (h1 : 0 ≤ r) (h2 : r ≤ 255) : IntKind.u8.wrap m = r := by
  subst h
  have : IntKind.u8.wrap m = m % 256 := by
    simp [IntKind.wrap, IntKind.bits, IntKind.signed]
  rw [this]; omega
end Go.Fid
