/- Part 13 of a proof: rules, plain facts, and functions walked. -/
import Derived.Test.YtnajallgoaiahaaGreatDoorM12
namespace Go.Fid
set_option linter.unusedVariables false
set_option linter.unusedSimpArgs false
def hH : SV → kA
  | .d x => x
  | _ => .tup []
def isD : SV → Bool
  | .d _ => true
  | _ => false
def kLo : IntKind → Int
  | .i64 => -9223372036854775808
  | .u64 => 0
  | .u32 => 0
  | .u8 => 0
  | _ => 1
def kHi : IntKind → Int
  | .i64 => 9223372036854775807
  | .u64 => 18446744073709551615
  | .u32 => 4294967295
  | .u8 => 255
  | _ => 0
theorem wAny {k : IntKind} {m r : Int} (h : m = r) (h1 : kLo k ≤ r) (h2 : r ≤ kHi k) : k.wrap m = r := by
  cases k <;> simp only [kLo, kHi] at h1 h2 <;> first | exact wi64 h h1 h2 | exact wu64 h h1 h2 | exact wu32 h h1 h2 | exact wu8 h h1 h2 | (exfalso; omega)
def kHiN : IntKind → Nat
  | .i64 => 9223372036854775807
  | .u64 => 18446744073709551615
  | .u32 => 4294967295
  | .u8 => 255
  | _ => 0
theorem wNat {k : IntKind} {m : Int} {r : Nat} (h : m = ((r : Nat) : Int)) (h2 : r ≤ kHiN k) (h1 : kLo k ≤ 0) : k.wrap m = ((r : Nat) : Int) := by
  refine wAny h (Int.le_trans h1 (Int.natCast_nonneg _)) ?_
  cases k <;> simp only [kHi, kHiN] at h2 ⊢ <;> first | omega | (exfalso; revert h1; decide)
theorem qAny {k : IntKind} (a b : Nat) (h : a ≤ kHiN k) (h1 : kLo k ≤ 0) : k.wrap (Int.tdiv (a : Int) (b : Int)) = ((a / b : Nat) : Int) :=
  wNat rfl (Nat.le_trans (Nat.div_le_self a b) h) h1
theorem isD_eq {x : SV} (h : isD x = true) : x = .d (hH x) := by cases x <;> first | rfl | cases h
section
variable {P : Program} {o : Oper} {S : Nat → SV} {T T' : TypeId} {x y c : Operand} {k l : IntKind} {m n : Int}
theorem vG (r : Nat) (ho : o.op = .binOp .add T x y T' := by exact rfl) (hx : ev S x = .d (.val (.int k m)) := by exact rfl) (hy : ev S y = .d (.val (.int k n)) := by exact rfl) (hr : k.wrap (m + n) = ((r : Nat) : Int) := by exact wNat (by first | rfl | omega | (dsimp only; omega)) (by simp only [kHiN]; omega) (by decide)) : uT P o S [] (.d (.val (.int k ((r : Nat) : Int)))) := e_add ho hx hy hr
theorem oSb (r : Nat) (ho : o.op = .binOp .sub T x y T' := by exact rfl) (hx : ev S x = .d (.val (.int k m)) := by exact rfl) (hy : ev S y = .d (.val (.int k n)) := by exact rfl) (hr : k.wrap (m - n) = ((r : Nat) : Int) := by exact wNat (by first | rfl | omega | (dsimp only; omega)) (by simp only [kHiN]; omega) (by decide)) : uT P o S [] (.d (.val (.int k ((r : Nat) : Int)))) := e_sub ho hx hy hr
theorem oMl (r : Nat) (ho : o.op = .binOp .mul T x y T' := by exact rfl) (hx : ev S x = .d (.val (.int k m)) := by exact rfl) (hy : ev S y = .d (.val (.int k n)) := by exact rfl) (hr : k.wrap (m * n) = ((r : Nat) : Int) := by exact wNat (by first | rfl | omega | (dsimp only; omega)) (by simp only [kHiN]; omega) (by decide)) : uT P o S [] (.d (.val (.int k ((r : Nat) : Int)))) := e_mul ho hx hy hr
theorem zAd (r : Int) (ho : o.op = .binOp .add T x y T' := by exact rfl) (hx : ev S x = .d (.val (.int k m)) := by exact rfl) (hy : ev S y = .d (.val (.int k n)) := by exact rfl) (hr : k.wrap (m + n) = r := by exact wAny (by first | omega | (dsimp only; omega)) (by simp only [kLo]; omega) (by simp only [kHi]; omega)) : uT P o S [] (.d (.val (.int k r))) := e_add ho hx hy hr
theorem zSb (r : Int) (ho : o.op = .binOp .sub T x y T' := by exact rfl) (hx : ev S x = .d (.val (.int k m)) := by exact rfl) (hy : ev S y = .d (.val (.int k n)) := by exact rfl) (hr : k.wrap (m - n) = r := by exact wAny (by first | omega | (dsimp only; omega)) (by simp only [kLo]; omega) (by simp only [kHi]; omega)) : uT P o S [] (.d (.val (.int k r))) := e_sub ho hx hy hr
theorem zMl (r : Int) (ho : o.op = .binOp .mul T x y T' := by exact rfl) (hx : ev S x = .d (.val (.int k m)) := by exact rfl) (hy : ev S y = .d (.val (.int k n)) := by exact rfl) (hr : k.wrap (m * n) = r := by exact wAny (by first | omega | (dsimp only; omega)) (by simp only [kLo]; omega) (by simp only [kHi]; omega)) : uT P o S [] (.d (.val (.int k r))) := e_mul ho hx hy hr
theorem oQu (r : Nat) (ho : o.op = .binOp .quo T x y T' := by exact rfl) (hx : ev S x = .d (.val (.int k m)) := by exact rfl) (hy : ev S y = .d (.val (.int k n)) := by exact rfl) (h0 : n ≠ 0 := by first | decide | omega) (hr : k.wrap (m.tdiv n) = ((r : Nat) : Int) := by exact qAny _ _ (by simp only [kHiN]; omega) (by decide)) : uT P o S [] (.d (.val (.int k ((r : Nat) : Int)))) := e_quo ho hx hy h0 hr
theorem oRe (r : Nat) (ho : o.op = .binOp .rem T x y T' := by exact rfl) (hx : ev S x = .d (.val (.int k m)) := by exact rfl) (hy : ev S y = .d (.val (.int k n)) := by exact rfl) (h0 : n ≠ 0 := by first | decide | omega) (hr : m.tmod n = ((r : Nat) : Int) := by exact tmod_nat _ _) : uT P o S [] (.d (.val (.int k ((r : Nat) : Int)))) := e_rem ho hx hy h0 hr
theorem gA (ho : o.op = .binOp .eql T x y T' := by exact rfl) (hx : ev S x = .d (.val (.int k m)) := by exact rfl) (hy : ev S y = .d (.val (.int k n)) := by exact rfl) : uT P o S [] (.d (.val (.bool (m == n)))) := e_eql ho hx hy
theorem nR (ho : o.op = .binOp .neq T x y T' := by exact rfl) (hx : ev S x = .d (.val (.int k m)) := by exact rfl) (hy : ev S y = .d (.val (.int k n)) := by exact rfl) : uT P o S [] (.d (.val (.bool (m != n)))) := e_neq ho hx hy
theorem vZ (ho : o.op = .binOp .lss T x y T' := by exact rfl) (hx : ev S x = .d (.val (.int k m)) := by exact rfl) (hy : ev S y = .d (.val (.int k n)) := by exact rfl) : uT P o S [] (.d (.val (.bool (decide (m < n))))) := e_lss ho hx hy
theorem oLe (ho : o.op = .binOp .leq T x y T' := by exact rfl) (hx : ev S x = .d (.val (.int k m)) := by exact rfl) (hy : ev S y = .d (.val (.int k n)) := by exact rfl) : uT P o S [] (.d (.val (.bool (decide (m ≤ n))))) := e_leq ho hx hy
theorem mO (ho : o.op = .binOp .gtr T x y T' := by exact rfl) (hx : ev S x = .d (.val (.int k m)) := by exact rfl) (hy : ev S y = .d (.val (.int k n)) := by exact rfl) : uT P o S [] (.d (.val (.bool (decide (n < m))))) := e_gtr ho hx hy
theorem oGe (ho : o.op = .binOp .geq T x y T' := by exact rfl) (hx : ev S x = .d (.val (.int k m)) := by exact rfl) (hy : ev S y = .d (.val (.int k n)) := by exact rfl) : uT P o S [] (.d (.val (.bool (decide (n ≤ m))))) := e_geq ho hx hy
theorem oEb (hT : boolB P T = true) {p q : Bool} (ho : o.op = .binOp .eql T x y T' := by exact rfl) (hx : ev S x = .d (.val (.bool p)) := by exact rfl) (hy : ev S y = .d (.val (.bool q)) := by exact rfl) : uT P o S [] (.d (.val (.bool (p == q)))) := e_eqlb ho hT hx hy
theorem oNb (hT : boolB P T = true) {p q : Bool} (ho : o.op = .binOp .neq T x y T' := by exact rfl) (hx : ev S x = .d (.val (.bool p)) := by exact rfl) (hy : ev S y = .d (.val (.bool q)) := by exact rfl) : uT P o S [] (.d (.val (.bool (!(p == q))))) := e_neqb ho hT hx hy
theorem fC {b : Bool} (ho : o.op = .unOp .not T x := by exact rfl) (hx : ev S x = .d (.val (.bool b)) := by exact rfl) : uT P o S [] (.d (.val (.bool !b))) := e_not ho hx
theorem oNg (r : Int) (ho : o.op = .unOp .neg T x := by exact rfl) (hx : ev S x = .d (.val (.int k n)) := by exact rfl) (hr : k.wrap (0 - n) = r := by exact wAny (by first | omega | (dsimp only; omega)) (by simp only [kLo]; omega) (by simp only [kHi]; omega)) : uT P o S [] (.d (.val (.int k r))) := e_neg ho hx hr
theorem nY {src dst : TypeId} (hs : (P.underlying src).isSome = true) (hd : intB P dst = some l) (r : Nat) (ho : o.op = .convert src dst x := by exact rfl) (hx : ev S x = .d (.val (.int k n)) := by exact rfl) (hr : l.wrap n = ((r : Nat) : Int) := by exact wNat (by first | rfl | omega | (dsimp only; omega)) (by simp only [kHiN]; omega) (by decide)) : uT P o S [] (.d (.val (.int l ((r : Nat) : Int)))) := e_conv ho hs hd hx hr
theorem zCv {src dst : TypeId} (hs : (P.underlying src).isSome = true) (hd : intB P dst = some l) (r : Int) (ho : o.op = .convert src dst x := by exact rfl) (hx : ev S x = .d (.val (.int k n)) := by exact rfl) (hr : l.wrap n = r := by exact wAny (by first | omega | (dsimp only; omega)) (by simp only [kLo]; omega) (by simp only [kHi]; omega)) : uT P o S [] (.d (.val (.int l r))) := e_conv ho hs hd hx hr
theorem oMx (r : Nat) (ho : o.op = .call { callee := .builtin .max, args := #[x, y], argTypes := #[T, T'] } := by exact rfl) (hx : ev S x = .d (.val (.int k m)) := by exact rfl) (hy : ev S y = .d (.val (.int k n)) := by exact rfl) (hr : (if m < n then n else m) = ((r : Nat) : Int) := by omega) : uT P o S [] (.d (.val (.int k ((r : Nat) : Int)))) := e_maxn ho hx hy hr
theorem xL (c : Bool) {b : Bool} (h : uT P o S [] (.d (.val (.bool b)))) (e : b = c := by decide) : uT P o S [] (.d (.val (.bool c))) := e ▸ h
theorem oV {z : SV} (w : SV) (h : uT P o S [] z) (e : z = w := by kernel_rfl) : uT P o S [] w := e ▸ h
theorem hZ (ho : o.op = .pick c x y := by exact rfl) (hc : ev S c = .d (.val (.bool true)) := by kernel_rfl) : uT P o S [] (ev S x) := e_pkt ho hc rfl
theorem yM (ho : o.op = .pick c x y := by exact rfl) (hc : ev S c = .d (.val (.bool false)) := by kernel_rfl) : uT P o S [] (ev S y) := e_pkf ho hc rfl
theorem aJ {q : Bool} (ho : o.op = .pick c x y := by exact rfl) (hc : ev S c = .d (.val (.bool true)) := by kernel_rfl) (hx : ev S x = .d (.val (.bool q)) := by exact rfl) : uT P o S [] (.d (.val (.bool (true && q)))) := e_pkta ho hc hx
theorem aO {q : Bool} (ho : o.op = .pick c x y := by exact rfl) (hc : ev S c = .d (.val (.bool false)) := by kernel_rfl) (hy : ev S y = .d (.val (.bool q)) := by exact rfl) : uT P o S [] (.d (.val (.bool (false || q)))) := e_pkfo ho hc hy
def nilK (o : Oper) : Bool := match o.op with
  | .move (.const (.slice none 0 0)) => true
  | .assign (.const (.slice none 0 0)) => true
  | _ => false
theorem nilK_eq (h : nilK o = true) : o.op = .move (.const (.slice none 0 0)) ∨ o.op = .assign (.const (.slice none 0 0)) := by
  unfold nilK at h
  split at h
  · exact .inl (by assumption)
  · exact .inr (by assumption)
  · cases h
theorem mP (t s : Nat) (h : nilK o = true := by kernel_rfl) : uT P o S [] (.d (.sl t s [])) := e_nil t s (nilK_eq h)
theorem oNc {k q : Nat} (ho : o.op = .nilCheck x := by exact rfl) (hx : ev S x = .ref k q := by exact rfl) : uT P o S [] (.ref k q) := e_nckr ho hx
theorem qD {f off b p : Nat} (hf : vR P T f = some off) (ho : o.op = .fieldAddr T x f := by exact rfl) (hx : ev S x = .ref b p := by exact rfl) : uT P o S [] (.ref b (p + off)) := e_fieldAddr_ref ho hx hf
theorem fW {t : TypeId} {f off p : Nat} {cs : List kA} (hf : vR P T f = some off) (ho : o.op = .fieldAddr T x f := by exact rfl) (hx : ev S x = .d (.cptr t cs p) := by exact rfl) : uT P o S [] (.d (.cptr t cs (p + off))) := e_fieldAddr_cptr ho hx hf
theorem fJ {E t : TypeId} {N b : Nat} (hT : uZ P T = some (E, 1)) (j : Nat) (ho : o.op = .indexAddr T x y := by exact rfl) (hx : ev S x = .own b t 1 N := by exact rfl) (hi : ev S y = .d (.val (.int k n)) := by exact rfl) (hj : n = ((j : Nat) : Int) := by omega) (h1 : j < N := by omega) : uT P o S [] (.ref b j) := e_ixo ho hT hx hi hj h1 (Nat.mul_one j)
theorem oXO {E t : TypeId} {N b s : Nat} (hT : uZ P T = some (E, s)) (j : Nat) (ho : o.op = .indexAddr T x y := by exact rfl) (hx : ev S x = .own b t s N := by exact rfl) (hi : ev S y = .d (.val (.int k n)) := by exact rfl) (hj : n = ((j : Nat) : Int) := by omega) (h1 : j < N := by omega) : uT P o S [] (.ref b (j * s)) := e_ixo ho hT hx hi hj h1 rfl
theorem oXs {E t : TypeId} {s : Nat} {es : List kA} (hT : uZ P T = some (E, s)) (j : Nat) (ho : o.op = .indexAddr T x y := by exact rfl) (hx : ev S x = .d (.sl t s es) := by exact rfl) (hi : ev S y = .d (.val (.int k ((j : Nat) : Int))) := by exact rfl) (h1 : Nat.blt j es.length = true := by kernel_rfl) : uT P o S [] (.d (.cptr t (es.getD j (.tup [])).cells 0)) :=
  e_ixs ho hT hx hi rfl (by
    have h1 := Nat.le_of_ble_eq_true h1
    simp [List.getElem?_eq_getElem h1, List.getD])
theorem zU {α : Type} {E t : TypeId} {s : Nat} {F : α → kA} {L : List α} (hT : uZ P T = some (E, s)) (j : Nat) (d : α) (ho : o.op = .indexAddr T x y := by exact rfl) (hx : ev S x = .d (.sl t s (L.map F)) := by exact rfl) (hi : ev S y = .d (.val (.int k n)) := by exact rfl) (hj : n = ((j : Nat) : Int) := by omega) (h1 : j < L.length := by omega) : uT P o S [] (.d (.cptr t (F (L.getD j d)).cells 0)) :=
  e_ixs ho hT hx hi hj (ixm F L j d h1)
theorem oXm {α γ : Type} {E t : TypeId} {s : Nat} {F : α → kA} {L : List γ} (hT : uZ P T = some (E, s)) (G : γ → α) (j : Nat) (d : γ) (ho : o.op = .indexAddr T x y := by exact rfl) (hx : ev S x = .d (.sl t s ((L.map G).map F)) := by exact rfl) (hi : ev S y = .d (.val (.int k n)) := by exact rfl) (hj : n = ((j : Nat) : Int) := by omega) (h1 : j < L.length := by omega) : uT P o S [] (.d (.cptr t (F (G (L.getD j d))).cells 0)) :=
  e_ixs ho hT hx hi hj (by simp [List.getD, List.getElem?_eq_getElem h1])
theorem xI {t : TypeId} {off : Nat} {cs : List kA} (hs : qL P T = some (false, 1)) (ho : o.op = .load T x := by exact rfl) (hx : ev S x = .d (.cptr t cs off) := by exact rfl) (hl : Nat.blt off cs.length = true := by kernel_rfl) : uT P o S [] (.d (cs.getD off (.tup []))) :=
  e_lc1 ho hx hs (by
    have hl := Nat.le_of_ble_eq_true hl
    simp [List.getElem?_eq_getElem hl, List.getD])
theorem dM {t : TypeId} {off sz : Nat} {cs : List kA} (hs : qL P T = some (true, sz)) (ho : o.op = .load T x := by exact rfl) (hx : ev S x = .d (.cptr t cs off) := by exact rfl) (hl : Nat.ble (off + sz) cs.length = true := by kernel_rfl) : uT P o S [] (yT true (((cs.drop off).take sz).map .d)) := e_lca ho hx hs hl rfl
theorem vP {i : Nat} {ds : List kA} (ho : o.op = .extract x i := by exact rfl) (hx : ev S x = .d (.tup ds) := by exact rfl) (hi : Nat.blt i ds.length = true := by kernel_rfl) : uT P o S [] (.d (ds.getD i (.tup []))) :=
  e_exD ho hx (by
    have hi := Nat.le_of_ble_eq_true hi
    simp [List.getElem?_eq_getElem hi, List.getD])
theorem oFv {t : TypeId} {f off sz : Nat} {cs : List kA} (hf : bJ P T f = some (off, t)) (hs : qL P t = some (true, sz)) (ho : o.op = .field T x f := by exact rfl) (hx : ev S x = .d (.agg cs) := by exact rfl) (hle : Nat.ble (off + sz) cs.length = true := by kernel_rfl) : uT P o S [] (yT true (((cs.drop off).take sz).map .d)) := e_fldv ho hx hf hs hle rfl
theorem oF1 {t : TypeId} {f off : Nat} {cs : List kA} (hf : bJ P T f = some (off, t)) (hs : qL P t = some (false, 1)) (ho : o.op = .field T x f := by exact rfl) (hx : ev S x = .d (.agg cs) := by exact rfl) (hle : Nat.ble (off + 1) cs.length = true := by kernel_rfl) : uT P o S [] (yT false (((cs.drop off).take 1).map .d)) := e_fld1 ho hx hf hs hle rfl
theorem oXa {E : TypeId} {N s sz : Nat} {agg : Bool} {cs : List kA} (hT : arrB P T = some (N, E, s)) (hs : qL P E = some (agg, sz)) (h1 : agg = false → sz = 1) (j : Nat) (ho : o.op = .index T x y := by exact rfl) (hx : ev S x = .d (.agg cs) := by exact rfl) (hi : ev S y = .d (.val (.int k ((j : Nat) : Int))) := by exact rfl) (hn : Nat.blt j N = true := by kernel_rfl) (hle : Nat.ble (j * s + sz) cs.length = true := by kernel_rfl) : uT P o S [] (yT agg (((cs.drop (j * s)).take sz).map .d)) := e_ixa ho hx hT hs h1 hi rfl hn hle rfl
theorem vX {α : Type} {E t : TypeId} {s : Nat} {F : α → kA} {L : List α} (hT : uZ P T = some (E, s)) (ho : o.op = .call { callee := .builtin .len, args := #[x], argTypes := #[T] } := by exact rfl) (hx : ev S x = .d (.sl t s (L.map F)) := by exact rfl) : uT P o S [] (.d (.val (.int .i64 ((L.length : Nat) : Int)))) := e_ln ho hT hx (by simp)
theorem oLn {E t : TypeId} {s : Nat} {es : List kA} (hT : uZ P T = some (E, s)) (r : Nat) (ho : o.op = .call { callee := .builtin .len, args := #[x], argTypes := #[T] } := by exact rfl) (hx : ev S x = .d (.sl t s es) := by exact rfl) (hr : (es.length : Int) = ((r : Nat) : Int) := by simp) : uT P o S [] (.d (.val (.int .i64 ((r : Nat) : Int)))) := e_ln ho hT hx hr
theorem oLo {E t : TypeId} {s b N : Nat} (hT : uZ P T = some (E, s)) (ho : o.op = .call { callee := .builtin .len, args := #[x], argTypes := #[T] } := by exact rfl) (hx : ev S x = .own b t s N := by exact rfl) : uT P o S [] (.d (.val (.int .i64 ((N : Nat) : Int)))) := e_len_own ho hT hx
theorem bS {ps : List (Nat × Operand)} {pl : List (Nat × Nat)} {zv : List Value} {zd : List kA} (hT : mT P T = some pl) (hz : xH P T = some zv) (hzd : eC zv zd) (ho : o.op = .build T ps.toArray := by exact rfl)
    (hps : (ps.all fun p => isD (ev S p.2) && (hH (ev S p.2)).ok1) = true := by kernel_rfl) (hr : (aU (fun i => pl[i]?) zd (ps.map fun p => (p.1, (hH (ev S p.2)).cells))).isSome = true := by kernel_rfl) :
    uT P o S [] (.d (.agg ((aU (fun i => pl[i]?) zd (ps.map fun p => (p.1, (hH (ev S p.2)).cells))).getD []))) := by
  rw [List.all_eq_true] at hps
  obtain ⟨r, hr⟩ := Option.isSome_iff_exists.1 hr
  have h := e_build (P := P) (o := o) (S := S) (pd := ps.map fun p => (p.1, hH (ev S p.2))) ho hT hz hzd (by
    rw [List.map_map]
    refine List.map_congr_left fun p hp => ?_
    have := hps p hp
    rw [Bool.and_eq_true] at this
    show (p.1, ev S p.2) = (p.1, SV.d (hH (ev S p.2)))
    rw [← isD_eq this.1]) (by
    rw [List.all_eq_true]
    intro q hq
    obtain ⟨p, hp, rfl⟩ := List.mem_map.1 hq
    have := hps p hp
    rw [Bool.and_eq_true] at this
    exact this.2) (by rw [List.map_map]; exact hr)
  rw [hr]; exact h
theorem bs_fill {s len : Nat} {ps : List (Nat × Operand)} {zd : List kA} (hzl : Nat.beq zd.length s = true) (hps : ps.map (fun p => (p.1, ev S p.2)) = (ps.map fun p => hH (ev S p.2)).zipIdx.map (fun p => (p.2, .d p.1)))
    (hok : (ps.all fun p => (hH (ev S p.2)).ok1 && Nat.beq (hH (ev S p.2)).cells.length s) = true) (hl : Nat.beq ps.length len = true) :
    (∀ e ∈ ps.map (fun p => hH (ev S p.2)), e.cells.length = s) ∧ aU (fun i => some (i * s, s)) (List.replicate len zd).flatten (((ps.map fun p => hH (ev S p.2)).zipIdx.map fun p => (p.2, p.1)).map fun p => (p.1, p.2.cells)) = some (flat (ps.map fun p => hH (ev S p.2))) := by
  have hzl := Nat.eq_of_beq_eq_true hzl
  have hl := Nat.eq_of_beq_eq_true hl
  have hs : ∀ e ∈ ps.map (fun p => hH (ev S p.2)), e.cells.length = s := fun d hd => by
    obtain ⟨p, hp, rfl⟩ := List.mem_map.1 hd
    have := List.all_eq_true.1 hok p hp
    rw [Bool.and_eq_true] at this
    exact Nat.eq_of_beq_eq_true this.2
  refine ⟨hs, ?_⟩
  have h := fillL_all (ps.map fun p => hH (ev S p.2)) 0 [] (List.replicate len zd).flatten (by simp) (by
    rw [List.length_map, hl, List.length_flatten, List.map_replicate, hzl]; simp) hs
  rw [List.nil_append, List.nil_append] at h
  rw [List.map_map]
  exact h
theorem gN {E : TypeId} {s len : Nat} {ps : List (Nat × Operand)} {zv : List Value} {zd : List kA} (hT : uZ P T = some (E, s)) (hz : xH P E = some zv) (hzd : eC zv zd) (ho : o.op = .buildSlice T len ps.toArray := by exact rfl)
    (hzl : Nat.beq zd.length s = true := by kernel_rfl) (hps : ps.map (fun p => (p.1, ev S p.2)) = (ps.map fun p => hH (ev S p.2)).zipIdx.map (fun p => (p.2, .d p.1)) := by kernel_rfl) (hok : (ps.all fun p => (hH (ev S p.2)).ok1 && Nat.beq (hH (ev S p.2)).cells.length s) = true := by kernel_rfl) (hl : Nat.beq ps.length len = true := by kernel_rfl)
    (hbig : Nat.ble (len * s) 16777216 = true := by kernel_rfl) (hbig' : Nat.ble len 16777216 = true := by kernel_rfl) : uT P o S [] (.d (.sl E s (ps.map fun p => hH (ev S p.2)))) := by
  obtain ⟨h1, h2⟩ := bs_fill hzl hps hok hl
  refine e_buildSlice (pd := (ps.map fun p => hH (ev S p.2)).zipIdx.map fun p => (p.2, p.1)) ho hT hz hzd (Nat.eq_of_beq_eq_true hzl) (by rw [hps, List.map_map]; rfl) ?_ (Nat.le_of_ble_eq_true hbig) (Nat.le_of_ble_eq_true hbig') (by rw [List.length_map]; exact Nat.eq_of_beq_eq_true hl) h1 h2
  rw [List.all_eq_true]
  intro q hq
  obtain ⟨p, hp, rfl⟩ := List.mem_map.1 hq
  obtain ⟨p', hp', he⟩ := List.mem_map.1 (List.fst_mem_of_mem_zipIdx hp)
  have := List.all_eq_true.1 hok p' hp'
  rw [Bool.and_eq_true] at this
  rw [← he]
  exact this.1
theorem oBe {E : TypeId} {s : Nat} (hT : uZ P T = some (E, s)) (ho : o.op = .buildSlice T 0 #[] := by exact rfl) : uT P o S [] .emp := e_bse ho hT
theorem oBo {E : TypeId} {s len : Nat} {ps : List (Nat × Operand)} {zv : List Value} {zd : List kA} (b : Nat) (hT : uZ P T = some (E, s)) (hz : xH P E = some zv) (hzd : eC zv zd) (ho : o.op = .buildSlice T len ps.toArray := by exact rfl)
    (hzl : Nat.beq zd.length s = true := by kernel_rfl) (hps : ps.map (fun p => (p.1, ev S p.2)) = (ps.map fun p => hH (ev S p.2)).zipIdx.map (fun p => (p.2, .d p.1)) := by kernel_rfl) (hok : (ps.all fun p => (hH (ev S p.2)).ok1 && Nat.beq (hH (ev S p.2)).cells.length s) = true := by kernel_rfl) (hl : Nat.beq ps.length len = true := by kernel_rfl)
    (hbig : Nat.ble (len * s) 16777216 = true := by kernel_rfl) (hbig' : Nat.ble len 16777216 = true := by kernel_rfl) : NOk P o S b ((flat (ps.map fun p => hH (ev S p.2))).map .d) (.own b E s len) := by
  obtain ⟨h1, h2⟩ := bs_fill hzl hps hok hl
  refine n_bso (pd := (ps.map fun p => hH (ev S p.2)).zipIdx.map fun p => (p.2, p.1)) b ho hT hz hzd (Nat.eq_of_beq_eq_true hzl) (by rw [hps, List.map_map]; rfl) ?_ hbig hbig' (by rw [List.length_map]; exact Nat.eq_of_beq_eq_true hl) ?_ h2 rfl
  · rw [List.all_eq_true]
    intro q hq
    obtain ⟨p, hp, rfl⟩ := List.mem_map.1 hq
    obtain ⟨p', hp', he⟩ := List.mem_map.1 (List.fst_mem_of_mem_zipIdx hp)
    have := List.all_eq_true.1 hok p' hp'
    rw [Bool.and_eq_true] at this
    rw [← he]
    exact this.1
  · refine List.eq_replicate_iff.2 ⟨by rw [List.length_map, List.length_map]; exact Nat.eq_of_beq_eq_true hl, fun z hz => ?_⟩
    obtain ⟨e, he, rfl⟩ := List.mem_map.1 hz
    exact h1 e he
theorem xA {d : kA} (b : Nat) (ho : o.op = .box T x := by exact rfl) (hx : ev S x = .d d := by exact rfl) (h1 : d.ok1 = true := by kernel_rfl) : NOk P o S b (bx d) (.ref b 0) := n_box b ho hx h1
theorem uU {zv : List Value} {zd : List kA} (b : Nat) (hz : xH P T = some zv) (hzd : eC zv zd) (ho : o.op = .alloc T := by exact rfl) : NOk P o S b (zd.map .d) (.ref b 0) := n_alloc b ho hz hzd
theorem oMk {α : Type} {E : TypeId} {s bytes : Nat} {kl kc : IntKind} {zv : List Value} {zd : List kA} {x y : Operand} (b : Nat) (F : α → kA) (z : α) (N M : Nat) (hT : uZ P T = some (E, s)) (hz : xH P E = some zv) (hzd : eC zv zd) (hby : xW P E = some bytes) (ho : o.op = .makeSlice T x y := by exact rfl)
    (hl : ev S x = .d (.val (.int kl m)) := by exact rfl) (hc : ev S y = .d (.val (.int kc n)) := by exact rfl) (hlN : m = ((N : Nat) : Int) := by omega) (hcM : n = ((M : Nat) : Int) := by omega) (hzl : Nat.beq zd.length s = true := by kernel_rfl) (hnm : N ≤ M := by omega) (hb : bytes * M ≤ 281474976710656 := by omega) (hm : M ≤ maxLen := by unfold maxLen; omega) (hzF : zd = [F z] := by kernel_rfl) :
    NOk P o S b ((List.replicate M z).map (fun g => SV.d (F g))) (.own b E s N) := by
  subst hlN; subst hcM; subst hzF
  exact n_mks b ho hT hz hzd (Nat.eq_of_beq_eq_true hzl) hby hl hc hnm hb hm (own_zero F M z)
end
section
variable {P : Program} {o : Oper} {S : SL} {B : BS} {T : TypeId} {x y : Operand} {k off : Nat}
theorem uL {cs : List SV} (hs : qL P T = some (false, 1)) (ho : o.op = .load T x := by exact rfl) (hx : ev (kG S) x = .ref k off := by exact rfl) (hb : kF B k = some cs := by exact rfl) (hl : Nat.blt off cs.length = true := by kernel_rfl) : ROk P o S B k (cs.getD off .junk) :=
  ⟨cs, e_ld1 ho hx hs (by
    have hl := Nat.le_of_ble_eq_true hl
    simp [List.getElem?_eq_getElem hl, List.getD]), hb⟩
theorem kP {sz : Nat} {cs : List SV} (hs : qL P T = some (true, sz)) (ho : o.op = .load T x := by exact rfl) (hx : ev (kG S) x = .ref k off := by exact rfl) (hb : kF B k = some cs := by exact rfl) (hl : Nat.ble (off + sz) cs.length = true := by kernel_rfl) : ROk P o S B k (yT true ((cs.drop off).take sz)) := ⟨cs, e_lda ho hx hs hl rfl, hb⟩
theorem oLp {α : Type} {F : α → kA} {L : List α} (hs : qL P T = some (false, 1)) (j : Nat) (d : α) (ho : o.op = .load T x := by exact rfl) (hx : ev (kG S) x = .ref k j := by exact rfl) (hb : kF B k = some (L.map fun g => SV.d (F g)) := by exact rfl) (h1 : j < L.length := by omega) : ROk P o S B k (.d (F (L.getD j d))) := ⟨_, e_ld1 ho hx hs (own_get F L j d h1), hb⟩
theorem qM {sz : Nat} {agg : Bool} {old : List SV} {d : kA} (hs : qL P T = some (agg, sz)) (ho : o.op = .store T x y := by exact rfl) (hx : ev (kG S) x = .ref k off := by exact rfl) (hy : ev (kG S) y = .d d := by exact rfl) (hb : kF B k = some old := by exact rfl) (h1 : d.ok1 = true := by kernel_rfl) (qZ : Nat.beq d.cells.length sz = true := by kernel_rfl) (hle : Nat.ble (off + sz) old.length = true := by kernel_rfl) : TK P o S B k (patch old off (d.cells.map .d)) :=
  ⟨old, t_std ho hx hy hs h1 (Nat.eq_of_beq_eq_true qZ) hle rfl, hb⟩
theorem oSo {j E s N : Nat} {u : SV} (hs : qL P T = some (false, 1)) (ho : o.op = .store T x y := by exact rfl) (hx : ev (kG S) x = .ref k 0 := by exact rfl) (hy : ev (kG S) y = .own j E s N := by exact rfl) (hb : kF B k = some [u] := by exact rfl) : TK P o S B k [.own j E s N] := ⟨_, t_sto ho hx hy hs, hb⟩
theorem oSp {α : Type} {F : α → kA} {L : List α} (hs : qL P T = some (false, 1)) (j : Nat) (v : α) (ho : o.op = .store T x y := by exact rfl) (hx : ev (kG S) x = .ref k j := by exact rfl) (hb : kF B k = some (L.map fun g => SV.d (F g)) := by exact rfl) (hy : ev (kG S) y = .d (F v) := by kernel_rfl) (h2 : (F v).ok1 = true := by kernel_rfl) (h3 : (F v).cells = [F v] := by kernel_rfl) (h1 : j < L.length := by omega) : TK P o S B k ((L.set j v).map fun g => SV.d (F g)) :=
  ⟨_, t_st1 ho hx hy hs h2 h3 (own_len F L j h1) (own_set F L j v), hb⟩
theorem jZ {S : Nat → SV} {xs : List Operand} {ats : Array TypeId} {f : FuncId} {ds : List kA} {r : kA} (hf : jT P f ds r) (ho : o.op = .call { callee := .value y, args := xs.toArray, argTypes := ats } := by exact rfl) (hy : ev S y = .d (.val (.func (.func f) #[] #[])) := by kernel_rfl) (hx : xs.map (ev S) = ds.map .d := by kernel_rfl) : uT P o S [] (.d r) := e_cl hf ho hy hx
theorem oCo {xs : List Operand} {ats : Array TypeId} {f : FuncId} {ds : List kA} {α : Type} {F : α → kA} {L : List α} {Tt s N : Nat} {S : Nat → SV} (b : Nat) (hf : TakesO P f ds Tt s N (L.map F)) (ho : o.op = .call { callee := .value y, args := xs.toArray, argTypes := ats } := by exact rfl) (hy : ev S y = .d (.val (.func (.func f) #[] #[])) := by kernel_rfl) (hx : xs.map (ev S) = ds.map .d := by kernel_rfl) : NOk P o S b (L.map (fun g => SV.d (F g))) (.own b Tt s N) := n_own b hf ho hy hx (by rw [List.map_map]; rfl)
end
inductive NilL : List kA → List kA → Prop
  | nil : NilL [] []
  | same {d : kA} {l l' : List kA} (h : NilL l l') : NilL (d :: l) (d :: l')
  | cut (t s : Nat) {l l' : List kA} (h : NilL l l') : NilL (.sl t s [] :: l) (.val (.slice none 0 0) :: l')
theorem NilL.rep {ds ds' : List kA} (h : NilL ds ds') {w : World} {D : qJ} : ds.length = ds'.length ∧ ∀ (i : Nat) (v : Value) (d : kA), ds[i]? = some d → (∀ d', ds'[i]? = some d' → uY w D v d') → uY w D v d := by
  induction h with
  | nil => exact ⟨rfl, fun i v d h => by simp at h⟩
  | same h ih =>
    refine ⟨by simp [ih.1], fun i v d hd hr => ?_⟩
    cases i with
    | zero => exact hr d (by simpa using hd)
    | succ i => exact ih.2 i v d (by simpa using hd) (fun d' hd' => hr d' (by simpa using hd'))
  | cut t s h ih =>
    refine ⟨by simp [ih.1], fun i v d hd hr => ?_⟩
    cases i with
    | zero =>
      have e := hr (.val (.slice none 0 0)) (by simp)
      simp only [List.getElem?_cons_zero, Option.some.injEq] at hd
      subst hd
      exact nil_sl t s w D (fun _ => none) v e
    | succ i => exact ih.2 i v d (by simpa using hd) (fun d' hd' => hr d' (by simpa using hd'))
theorem cC {k j : Nat} {bs : BS} (h : Clr k bs) : Clr k ((j, none) :: bs) := fun i c hi hb => by
  rw [jL] at hb
  split at hb
  · cases hb
  · exact h i c hi hb
section
variable {P : Program} {n : Fr} {ops : Array Oper} {K : SL → BS → Prop} {S : SL} {B : BS} {l : List Oper} {o : Oper} {α : Type} {T E t' : TypeId} {x y : Operand} {k s m bytes : Nat} {zv : List Value}
theorem app_go (F : α → kA) {L L' : List α} {m2 : Nat} (hF : ∀ g, (F g).cells.length = s) (ho : o.op = .call { callee := .builtin .append, args := #[x, y], argTypes := #[T, T] }) (g : goK n ops S o = true) (hT : uZ P T = some (E, s)) (hz : xH P E = some zv) (hzl : zv.length = s) (hby : xW P E = some bytes)
    (hx : ev (kG S) x = .own k E s m) (hb : kF B k = some (qQ F L)) (hL : L.length = m) (hy : ev (kG S) y = .d (.sl t' s (L'.map F))) (hbig : m + L'.length ≤ maxLen) (hbig' : (m + L'.length) * bytes ≤ 140737488355328) (hB : Clr k B) (hm : m + L'.length = m2)
    (r : SK P n ops K ((dO o, .own k E s m2) :: gV k S) ((k, some (qQ F (L ++ L'))) :: B) l) : SK P n ops K S B (o :: l) := by
  obtain ⟨hd, hg, hdB⟩ := zJ g
  refine zX (S1 := (dO o, .own k E s m2) :: gV k S) (B1 := (k, some (qQ F (L ++ L'))) :: B) (fun C a w Q hn hs => ?_) hg r
  subst hm
  have := app_sound (st := ⟨S, B⟩) (N := n) (es := L.map F) (es' := L'.map F) ho (by rw [hd]; exact hdB) hT hz hzl hby hx hb rfl (by rw [nE F hF, hL]) hy (by simpa using hbig) (by simpa using hbig') hB C a w Q hn hs
  rw [hd, ← List.map_append, List.length_map] at this
  exact this
theorem zA (F : α → kA) (L L' : List α) (hL : L.length = m) (hT : uZ P T = some (E, 1)) (hz : xH P E = some zv) (hby : xW P E = some bytes) (r : SK P n ops K ((dO o, .own k E 1 (L ++ L').length) :: gV k S) ((k, some ((L ++ L').map (fun g => SV.d (F g)))) :: B) l)
    (ho : o.op = .call { callee := .builtin .append, args := #[x, y], argTypes := #[T, T] } := by exact rfl) (g : goK n ops S o = true := by kernel_rfl) (hx : ev (kG S) x = .own k E 1 m := by exact rfl) (hb : kF B k = some (L.map (fun g => SV.d (F g))) := by kernel_rfl) (hy : ev (kG S) y = .d (.sl t' 1 (L'.map F)) := by exact rfl) (hF : ∀ g, (F g).cells = [F g] := by intro g; kernel_rfl) (hzl : zv.length = 1 := by kernel_rfl)
    (hbig : m + L'.length ≤ maxLen := by first | (simp only [List.length_cons, List.length_nil, maxLen]; omega) | (simp [maxLen]; omega)) (hbig' : (m + L'.length) * bytes ≤ 140737488355328 := by first | omega | (simp only [List.length_cons, List.length_nil]; omega) | (simp; omega))
    (hB : Clr k B := by repeat first | exact fM _ | refine eS ?_ | refine bX ?_ | refine cC ?_ | refine clr_bx ?_ | refine clr_d ?_) : SK P n ops K S B (o :: l) :=
  app_go F (s := 1) (m2 := (L ++ L').length) (fun g => by rw [hF g]; rfl) ho g hT hz hzl hby hx (by rw [bxs_one F hF]; exact hb) hL hy hbig hbig' hB (by rw [List.length_append, hL]) (by rw [bxs_one F hF]; exact r)
theorem zAS (F : α → kA) (L L' : List α) (hL : L.length = m) (hT : uZ P T = some (E, s)) (hz : xH P E = some zv) (hby : xW P E = some bytes) (r : SK P n ops K ((dO o, .own k E s (L ++ L').length) :: gV k S) ((k, some (qQ F (L ++ L'))) :: B) l)
    (ho : o.op = .call { callee := .builtin .append, args := #[x, y], argTypes := #[T, T] } := by exact rfl) (g : goK n ops S o = true := by kernel_rfl) (hx : ev (kG S) x = .own k E s m := by exact rfl) (hb : kF B k = some (qQ F L) := by kernel_rfl) (hy : ev (kG S) y = .d (.sl t' s (L'.map F)) := by exact rfl) (hF : ∀ g, (F g).cells.length = s := by intro g; kernel_rfl) (hzl : zv.length = s := by kernel_rfl)
    (hbig : m + L'.length ≤ maxLen := by first | (simp only [List.length_cons, List.length_nil, maxLen]; omega) | (simp [maxLen]; omega)) (hbig' : (m + L'.length) * bytes ≤ 140737488355328 := by first | omega | (simp only [List.length_cons, List.length_nil]; omega) | (simp; omega))
    (hB : Clr k B := by repeat first | exact fM _ | refine eS ?_ | refine bX ?_ | refine cC ?_ | refine clr_bx ?_ | refine clr_d ?_) : SK P n ops K S B (o :: l) :=
  app_go F (m2 := (L ++ L').length) hF ho g hT hz hzl hby hx hb hL hy hbig hbig' hB (by rw [List.length_append, hL]) r
theorem zAQ (F : α → kA) (L L' : List α) (hL : L.length = m) (hT : uZ P T = some (E, 1)) (hz : xH P E = some zv) (hby : xW P E = some bytes) (r : SK P n ops K ((dO o, .d (.sl E 1 ((L ++ L').map F))) :: gV k S) ((k, none) :: B) l)
    (ho : o.op = .call { callee := .builtin .append, args := #[x, y], argTypes := #[T, T] } := by exact rfl) (g : goK n ops S o = true := by kernel_rfl) (hx : ev (kG S) x = .own k E 1 m := by exact rfl) (hb : kF B k = some (L.map (fun g => SV.d (F g))) := by kernel_rfl) (hy : ev (kG S) y = .d (.sl t' 1 (L'.map F)) := by exact rfl) (hF : ∀ g, (F g).cells = [F g] := by intro g; kernel_rfl) (hzl : zv.length = 1 := by kernel_rfl)
    (hbig : m + L'.length ≤ maxLen := by first | (simp only [List.length_cons, List.length_nil, maxLen]; omega) | (simp [maxLen]; omega)) (hbig' : (m + L'.length) * bytes ≤ 140737488355328 := by first | omega | (simp only [List.length_cons, List.length_nil]; omega) | (simp; omega))
    (hB : Clr k B := by repeat first | exact fM _ | refine eS ?_ | refine bX ?_ | refine cC ?_ | refine clr_bx ?_ | refine clr_d ?_) : SK P n ops K S B (o :: l) := by
  obtain ⟨hd, hg, hdB⟩ := zJ g
  exact zX (appP_sem F L L' (fun g => by rw [hF g]; rfl) ho hd hdB hT hz hzl hby hx (by rw [bxs_one F hF]; exact hb) hL hy hbig hbig' hB) hg r
theorem zO (k E s : Nat) (r : SK P n ops K ((dO o, .own k E s 0) :: S) ((k, some []) :: B) l) (h : nilK o = true := by kernel_rfl) (g : goK n ops S o = true := by kernel_rfl) (hf : gC k ⟨S, B⟩ = true := by kernel_rfl) : SK P n ops K S B (o :: l) := by
  obtain ⟨hd, hg, hdB⟩ := zJ g
  exact zX (nilOwn_sem k E s ((nilK_eq h).elim .inr .inl) hd hdB hf) hg r
end
section
variable {P : Program} {n : Fr} {Q : Exit → PS → Prop} {st : PS} {c : Operand} {x y : Code}
theorem xD (h1 : qR P n x Q st) (hc : ev (kG st.sl) c = .d (.val (.bool true)) := by kernel_rfl) : qR P n (.cond c x y) Q st := jF (b := true) hc (fun _ => h1) (fun h => by cases h)
theorem kZ (h2 : qR P n y Q st) (hc : ev (kG st.sl) c = .d (.val (.bool false)) := by kernel_rfl) : qR P n (.cond c x y) Q st := jF (b := false) hc (fun h => by cases h) (fun _ => h2)
end
end Go.Fid
