/-
  Encodings of numbers, private arrays of numbers, small forms. For any program.
-/
import Derived.Test.YtadkkhdnccljcaaGreatFid10
namespace Go.Fid
open Go.RowKit (Below)
def bx (d : Dat) : List SV := d.cells.map .d
def enc_u32 (g : Nat) : Dat := .val (.int .u32 (g : Int))
section
variable {α : Type}
theorem own_get (F : α → Dat) (L : List α) (j : Nat) (d : α) (h : j < L.length) : (L.map (fun g => SV.d (F g)))[j]? = some (.d (F (L.getD j d))) := by
  simp [List.getD, List.getElem?_eq_getElem h]
theorem ixm (F : α → Dat) (L : List α) (j : Nat) (d : α) (h : j < L.length) : ((L.map F)[j]?).map Dat.cells = some ((F (L.getD j d)).cells) := by
  simp [List.getD, List.getElem?_eq_getElem h]
theorem own_len (F : α → Dat) (L : List α) (j : Nat) (h : j < L.length) : j < (L.map (fun g => SV.d (F g))).length := by simpa using h
theorem own_set (F : α → Dat) (L : List α) (j : Nat) (v : α) : (L.map (fun g => SV.d (F g))).set j (.d (F v)) = (L.set j v).map (fun g => SV.d (F g)) := by
  rw [List.map_set]
theorem own_zero (F : α → Dat) (m : Nat) (z : α) : ((List.replicate m [F z]).flatten.map SV.d) = (List.replicate m z).map (fun g => SV.d (F g)) := by
  induction m with
  | zero => rfl
  | succ m ih =>
    rw [List.replicate_succ, List.replicate_succ, List.flatten_cons, List.map_append, ih]
    rfl
theorem flat_one (F : α → Dat) (hF : ∀ g, (F g).cells = [F g]) (L : List α) : flat (L.map F) = L.map F := by
  induction L with
  | nil => rfl
  | cons x l ih => rw [List.map_cons, flat_cons, ih, hF]; rfl
theorem pub_cells (F : α → Dat) (L : List α) (hF : ∀ g, (F g).cells = [F g]) : ∀ e ∈ L.map F, e.cells.length = 1 := by
  intro e he
  obtain ⟨g, _, rfl⟩ := List.mem_map.1 he
  rw [hF]; rfl
theorem pub_take (F : α → Dat) (L : List α) (hF : ∀ g, (F g).cells = [F g]) {m : Nat} (h : L.length = m) : (L.map (fun g => SV.d (F g))).take (m * 1) = (flat (L.map F)).map .d := by
  rw [flat_one F hF, List.map_map, Nat.mul_one, ← h]
  rw [List.take_of_length_le (by simp)]
  rfl
theorem map_len (F : α → Dat) (L : List α) {m : Nat} (h : L.length = m) : (L.map F).length = m := by simpa using h
end
section
variable {P : Program} {o : Oper} {S : Nat → SV}
theorem e_ln {T E t : TypeId} {x : Operand} {s : Nat} {es : List Dat} {r : Int} (ho : o.op = .call { callee := .builtin .len, args := #[x], argTypes := #[T] }) (hT : elemB P T = some (E, s)) (hx : ev S x = .d (.sl t s es)) (hr : (es.length : Int) = r) : EOk P o S [] (.d (.val (.int .i64 r))) := hr ▸ e_len_sl ho hT hx
theorem e_slc {T E t : TypeId} {x : Operand} {lo hi : Option Operand} {s l h : Nat} {kl kh : IntKind} {es es' : List Dat} (ho : o.op = .slice T x lo hi none) (hT : elemB P T = some (E, s)) (hx : ev S x = .d (.sl t s es)) (hlo : optInt S lo kl 0 l) (hhi : optInt S hi kh es.length h)
    (h1 : l ≤ h) (h2 : h ≤ es.length) (he : (es.take h).drop l = es') : EOk P o S [] (.d (.sl t s es')) := he ▸ e_slice ho hT hx hlo hhi h1 h2
theorem n_mks {T E : TypeId} {l c : Operand} {s n m bytes : Nat} {kl kc : IntKind} {zv : List Value} {zd : List Dat} {cs : List SV} (k : Nat) (ho : o.op = .makeSlice T l c) (hT : elemB P T = some (E, s)) (hz : zeroB P E = some zv) (hzd : ZOk zv zd) (hzl : zd.length = s) (hby : bytesB P E = some bytes)
    (hl : ev S l = .d (.val (.int kl (n : Int)))) (hc : ev S c = .d (.val (.int kc (m : Int)))) (hnm : n ≤ m) (hb : bytes * m ≤ 281474976710656) (hm : m ≤ maxLen) (hcs : (List.replicate m zd).flatten.map .d = cs) : NOk P o S k cs (.own k E s n) := hcs ▸ n_makeSlice k ho hT hz hzd hzl hby hl hc hnm hb hm
theorem e_maxn {T T' : TypeId} {x y : Operand} {k : IntKind} {m n r : Int} (ho : o.op = .call { callee := .builtin .max, args := #[x, y], argTypes := #[T, T'] }) (hx : ev S x = .d (.val (.int k m))) (hy : ev S y = .d (.val (.int k n))) (hr : (if m < n then n else m) = r) : EOk P o S [] (.d (.val (.int k r))) := hr ▸ e_max ho hx hy
theorem res_a {st : PS} {t : Tmp} {T : TypeId} {k sz : Nat} {cs : List SV} {d : Dat} {rs : List ResultVar} {ds : List Dat} (h : sget st.sl t = .ref k 0) (hb : bget st.bs k = some cs) (hs : shapeB P T = some (true, sz)) (hl : Nat.ble sz cs.length = true) (hg : gather true (cs.take sz) = .d d) (hr : ResOk P st rs ds) : ResOk P st (.cell t T :: rs) (d :: ds) :=
  .cell h hb hs (fun h => by cases h) (Nat.le_of_ble_eq_true hl) hg hr
theorem res_1 {st : PS} {t : Tmp} {T : TypeId} {k : Nat} {cs : List SV} {d : Dat} {rs : List ResultVar} {ds : List Dat} (h : sget st.sl t = .ref k 0) (hb : bget st.bs k = some cs) (hs : shapeB P T = some (false, 1)) (hl : Nat.ble 1 cs.length = true) (hg : gather false (cs.take 1) = .d d) (hr : ResOk P st rs ds) : ResOk P st (.cell t T :: rs) (d :: ds) :=
  .cell h hb hs (fun _ => rfl) (Nat.le_of_ble_eq_true hl) hg hr
end
theorem tmod_nat (a b : Nat) : Int.tmod (a : Int) (b : Int) = ((a % b : Nat) : Int) := rfl
theorem quo_le {a b m : Nat} (h : a ≤ m) : ((a / b : Nat) : Int) ≤ (m : Int) := Int.ofNat_le.2 (Nat.le_trans (Nat.div_le_self a b) h)
theorem quo_u64 (a b : Nat) (h : a ≤ 18446744073709551615) : IntKind.u64.wrap (Int.tdiv (a : Int) (b : Int)) = ((a / b : Nat) : Int) :=
  wu64 rfl (Int.natCast_nonneg _) (quo_le h)
end Go.Fid
