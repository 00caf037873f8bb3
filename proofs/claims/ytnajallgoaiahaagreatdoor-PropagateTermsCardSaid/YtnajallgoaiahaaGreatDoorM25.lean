/- Part 25 of a proof: rules, plain facts, and functions walked. -/
import Derived.Test.YtnajallgoaiahaaGreatDoorM24
import Derived.Maps.RangeRun
import Derived.Test.YtnajallgoaiahaaGreatDoorM8
namespace Go.Fid
set_option linter.unusedVariables false
set_option linter.unusedSimpArgs false
def vV (xs L : List Rat) (x : kK) : Rat :=
  if x.op = 1 then xs.getD x.a.toNat 0
  else if x.op = 2 then L.getD x.a.toNat 0 + L.getD x.b.toNat 0
  else if x.op = 3 then L.getD x.a.toNat 0 - L.getD x.b.toNat 0
  else if x.op = 4 then L.getD x.a.toNat 0 * L.getD x.b.toNat 0
  else if x.op = 6 then -(L.getD x.a.toNat 0)
  else if x.op = 7 then L.getD x.a.toNat 0 * L.getD x.a.toNat 0
  else if x.op = 5 then L.getD x.a.toNat 0 / L.getD x.b.toNat 0
  else qB x.n
def vU (xs : List Rat) (t : List kK) : Nat → List Rat
  | 0 => []
  | k + 1 => vU xs t k ++ [vV xs (vU xs t k) (t.getD k tz)]
theorem vU_len (xs : List Rat) (t : List kK) : ∀ k, (vU xs t k).length = k
  | 0 => rfl
  | k + 1 => by rw [vU, List.length_append, vU_len xs t k]; rfl
structure VUp (xs : List Rat) (t : List kK) (k : Nat) : Prop where
  ok : ∀ i, i < k → QL (vV xs (vU xs t i) (t.getD i tz)) 1048576
  dz : ∀ i, i < k → (t.getD i tz).op = 5 → (vU xs t i).getD (t.getD i tz).b.toNat 0 ≠ 0
structure VRun (xs : List Rat) (t : List kK) : Prop where
  c0 : eY ((xs.length : Nat) : Int) t = 0
  up : VUp xs t t.length
structure VFail (xs : List Rat) (t : List kK) (k : Nat) : Prop where
  c0 : eY ((xs.length : Nat) : Int) t = 0
  hk : k < t.length
  up : VUp xs t k
  op : (t.getD k tz).op = 5
  z : (vU xs t k).getD (t.getD k tz).b.toNat 0 = 0
theorem VUp.le {xs : List Rat} {t : List kK} {k j : Nat} (h : VUp xs t k) (hj : j ≤ k) : VUp xs t j := ⟨fun i hi => h.ok i (by omega), fun i hi => h.dz i (by omega)⟩
theorem VUp.all {xs : List Rat} {t : List kK} : ∀ {k}, VUp xs t k → ∀ q ∈ vU xs t k, QL q 1048576
  | 0, _, q, hq => by simp [vU] at hq
  | k + 1, h, q, hq => by
    rw [vU, List.mem_append] at hq
    rcases hq with hq | hq
    · exact (h.le (Nat.le_succ k)).all q hq
    · rw [List.mem_singleton] at hq; subst hq
      exact h.ok k (by omega)
def fX (xs : List Rat) (t : List kK) : Rat := (vU xs t t.length).getD (t.length - 1) 0
theorem qlg {l : List Rat} {n : Nat} (h : ∀ q ∈ l, QL q n) (h1 : 1 ≤ n) (j : Nat) : QL (l.getD j 0) n := by
  rcases Nat.lt_or_ge j l.length with hj | hj
  · rw [List.getD_eq_getElem?_getD, List.getElem?_eq_getElem hj]; exact h _ (List.getElem_mem _)
  · rw [List.getD_eq_getElem?_getD, List.getElem?_eq_none (by omega)]; exact xQ eH h1
theorem VRun.last {xs : List Rat} {t : List kK} (h : VRun xs t) : QL (fX xs t) 1048576 := qlg h.up.all (by decide) _
def szs (t : List kK) : List Int := cG t t.length
def evs (xs : List Rat) (t : List kK) : List Rat := vU xs t t.length
theorem szU_app (t : List kK) (x : kK) : ∀ k, k ≤ t.length → cG (t ++ [x]) k = cG t k
  | 0, _ => rfl
  | k + 1, h => by
    rw [cG, cG, szU_app t x k (by omega)]
    rw [show (t ++ [x]).getD k tz = t.getD k tz by rw [List.getD_eq_getElem?_getD, List.getElem?_append_left (by omega), ← List.getD_eq_getElem?_getD]]
theorem vU_app (xs : List Rat) (t : List kK) (x : kK) : ∀ k, k ≤ t.length → vU xs (t ++ [x]) k = vU xs t k
  | 0, _ => rfl
  | k + 1, h => by
    rw [vU, vU, vU_app xs t x k (by omega)]
    rw [show (t ++ [x]).getD k tz = t.getD k tz by rw [List.getD_eq_getElem?_getD, List.getElem?_append_left (by omega), ← List.getD_eq_getElem?_getD]]
theorem eV (t : List kK) (x : kK) : (t ++ [x]).getD t.length tz = x := by
  rw [List.getD_eq_getElem?_getD, List.getElem?_append_right (Nat.le_refl _), Nat.sub_self]; rfl
theorem snoc_old (t : List kK) (x : kK) {k : Nat} (h : k < t.length) : (t ++ [x]).getD k tz = t.getD k tz := by
  rw [List.getD_eq_getElem?_getD, List.getElem?_append_left h, ← List.getD_eq_getElem?_getD]
theorem szs_snoc (t : List kK) (x : kK) : szs (t ++ [x]) = szs t ++ [bN (szs t) x] := by
  unfold szs
  rw [List.length_append, List.length_singleton, cG, szU_app t x _ (Nat.le_refl _), eV]
theorem evs_snoc (xs : List Rat) (t : List kK) (x : kK) : evs xs (t ++ [x]) = evs xs t ++ [vV xs (evs xs t) x] := by
  unfold evs
  rw [List.length_append, List.length_singleton, vU, vU_app xs t x _ (Nat.le_refl _), eV]
theorem cF (t : List kK) : (szs t).length = t.length := mA _ _
theorem evs_len (xs : List Rat) (t : List kK) : (evs xs t).length = t.length := vU_len _ _ _
structure GT (xs : List Rat) (z : Int) (t : List kK) : Prop where
  nd : szUp z t t.length
  up : VUp xs t t.length
theorem GT.nil (xs : List Rat) (z : Int) : GT xs z [] := ⟨fun i h => absurd h (Nat.not_lt_zero i), ⟨fun i h => absurd h (Nat.not_lt_zero i), fun i h => absurd h (Nat.not_lt_zero i)⟩⟩
theorem nd_snoc {z : Int} {t : List kK} {x : kK} (h : szUp z t t.length) (hn : ndC z (szs t) x = 0) : szUp z (t ++ [x]) (t ++ [x]).length := fun i hi => by
  rw [List.length_append, List.length_singleton] at hi
  rw [szU_app t x i (by omega)]
  rcases Nat.lt_or_ge i t.length with h1 | h1
  · rw [snoc_old t x h1]; exact h i h1
  · obtain rfl : i = t.length := by omega
    rw [eV]; exact hn
theorem up_snoc {xs : List Rat} {t : List kK} {x : kK} (h : VUp xs t t.length) : VUp xs (t ++ [x]) t.length := ⟨fun i hi => by
    rw [vU_app xs t x i (by omega), snoc_old t x hi]; exact h.ok i hi, fun i hi => by
    rw [vU_app xs t x i (by omega), snoc_old t x hi]; exact h.dz i hi⟩
theorem GT.snoc {xs : List Rat} {z : Int} {t : List kK} {x : kK} (h : GT xs z t) (hn : ndC z (szs t) x = 0) (hq : QL (vV xs (evs xs t) x) 1048576) (hz : x.op = 5 → (evs xs t).getD x.b.toNat 0 ≠ 0) : GT xs z (t ++ [x]) :=
  ⟨nd_snoc h.nd hn, ⟨fun i hi => by
    rw [List.length_append, List.length_singleton] at hi
    rcases Nat.lt_or_ge i t.length with h1 | h1
    · exact (up_snoc h.up).ok i h1
    · obtain rfl : i = t.length := by omega
      rw [eV, vU_app xs t x _ (Nat.le_refl _)]; exact hq, fun i hi => by
    rw [List.length_append, List.length_singleton] at hi
    rcases Nat.lt_or_ge i t.length with h1 | h1
    · exact (up_snoc h.up).dz i h1
    · obtain rfl : i = t.length := by omega
      rw [eV, vU_app xs t x _ (Nat.le_refl _)]; exact hz⟩⟩
structure eJ (xs : List Rat) (t : List kK) (i : Int) (v : Rat) (s : Int) (n : Nat) : Prop where
  lo : 0 ≤ i
  hi : i < t.length
  vl : (evs xs t).getD i.toNat 0 = v
  s1 : 1 ≤ (szs t).getD i.toNat 0
  sb : (szs t).getD i.toNat 0 ≤ s
  qb : QL v n
theorem eJ.snoc {xs : List Rat} {t : List kK} {i : Int} {v : Rat} {s : Int} {n : Nat} (h : eJ xs t i v s n) (x : kK) : eJ xs (t ++ [x]) i v s n := by
  have h1 := h.lo; have h2 := h.hi
  refine ⟨h1, by rw [List.length_append]; omega, ?_, ?_, ?_, h.qb⟩
  · rw [evs_snoc, List.getD_eq_getElem?_getD, List.getElem?_append_left (by rw [evs_len]; omega), ← List.getD_eq_getElem?_getD]; exact h.vl
  · rw [szs_snoc, List.getD_eq_getElem?_getD, List.getElem?_append_left (by rw [cF]; omega), ← List.getD_eq_getElem?_getD]; exact h.s1
  · rw [szs_snoc, List.getD_eq_getElem?_getD, List.getElem?_append_left (by rw [cF]; omega), ← List.getD_eq_getElem?_getD]; exact h.sb
theorem eJ.up {xs : List Rat} {t : List kK} {i : Int} {v : Rat} {s s' : Int} {n n' : Nat} (h : eJ xs t i v s n) (hs : s ≤ s') (hn : n ≤ n') : eJ xs t i v s' n' := ⟨h.lo, h.hi, h.vl, h.s1, Int.le_trans h.sb hs, xQ h.qb hn⟩
theorem ndv_new {xs : List Rat} {t : List kK} {x : kK} {v : Rat} {s : Int} {n : Nat} (hv : vV xs (evs xs t) x = v) (h1 : 1 ≤ bN (szs t) x) (hs : bN (szs t) x ≤ s) (hn : QL v n) : eJ xs (t ++ [x]) ((t.length : Nat) : Int) v s n := by
  have e : (((t.length : Nat) : Int)).toNat = t.length := Int.toNat_natCast _
  refine ⟨by omega, by rw [List.length_append, List.length_singleton]; omega, ?_, ?_, ?_, hn⟩
  · rw [e, evs_snoc, List.getD_eq_getElem?_getD, List.getElem?_append_right (by rw [evs_len]; exact Nat.le_refl _), evs_len, Nat.sub_self]; exact hv
  · rw [e, szs_snoc, List.getD_eq_getElem?_getD, List.getElem?_append_right (by rw [cF]; exact Nat.le_refl _), cF, Nat.sub_self]; exact h1
  · rw [e, szs_snoc, List.getD_eq_getElem?_getD, List.getElem?_append_right (by rw [cF]; exact Nat.le_refl _), cF, Nat.sub_self]; exact hs
abbrev dW (o a b : Int) : kK := ⟨o, a, b, zr⟩
theorem nd_var {z : Int} {ss : List Int} {a : Int} (h1 : 0 ≤ a) (h2 : a < z) : ndC z ss (dW 1 a 0) = 0 ∧ bN ss (dW 1 a 0) = 1 := by
  have hs : bN ss (dW 1 a 0) = 1 := if_pos (by decide : xV 1 = 0)
  refine ⟨nd_y ?_ ?_ ?_ (by rw [hs]; decide), hs⟩
  · unfold cO dW; simp only [uns_zr]; rintro (h | ⟨_, h⟩ | ⟨h, _⟩ | ⟨_, h⟩) <;> revert h <;> decide
  · unfold bB dW; dsimp only; rw [show xV 1 = 0 by decide]; omega
  · unfold rngN dW; dsimp only; omega
theorem nd_bin {z : Int} {ss : List Int} {o a b : Int} (ho : o = 2 ∨ o = 3 ∨ o = 4 ∨ o = 5) (ha : 0 ≤ a ∧ a < ss.length) (hb : 0 ≤ b ∧ b < ss.length) (hs : ss.getD a.toNat 0 + ss.getD b.toNat 0 ≤ 4096) : ndC z ss (dW o a b) = 0 ∧ bN ss (dW o a b) = ss.getD a.toNat 0 + ss.getD b.toNat 0 := by
  have hk : xV o = 2 := by rcases ho with h | h | h | h <;> subst h <;> decide
  have e : bN ss (dW o a b) = ss.getD a.toNat 0 + ss.getD b.toNat 0 := by
    unfold bN dW
    dsimp only
    rw [hk, if_neg (by decide), if_neg (by omega), if_neg (by omega)]
  refine ⟨nd_y ?_ ?_ ?_ (by rw [e]; omega), e⟩
  · unfold cO dW; simp only [uns_zr, hk]; rintro (h | ⟨h, _⟩ | ⟨h, _⟩ | ⟨_, h⟩)
    · revert h; decide
    · revert h; decide
    · omega
    · cases h
  · unfold bB dW; simp only [hk]; omega
  · unfold rngN dW; dsimp only; omega
theorem nd_sq {z : Int} {ss : List Int} {a : Int} (ha : 0 ≤ a ∧ a < ss.length) (hs : 2 * ss.getD a.toNat 0 ≤ 4096) : ndC z ss (dW 7 a 0) = 0 ∧ bN ss (dW 7 a 0) = 2 * ss.getD a.toNat 0 := by
  have e : bN ss (dW 7 a 0) = 2 * ss.getD a.toNat 0 := by
    unfold bN dW
    dsimp only
    rw [if_neg (by decide), if_neg (by decide), if_pos rfl]
  refine ⟨nd_y ?_ ?_ ?_ (by rw [e]; omega), e⟩
  · unfold cO dW; simp only [uns_zr]; rintro (h | ⟨_, h⟩ | ⟨h, _⟩ | ⟨_, h⟩) <;> revert h <;> decide
  · unfold bB dW; dsimp only; rw [show xV 7 = 1 by decide]; omega
  · unfold rngN dW; dsimp only; omega
theorem mk_var {xs : List Rat} {z : Int} {t : List kK} {a : Int} {n : Nat} (h : GT xs z t) (h1 : 0 ≤ a) (h2 : a < z) (hx : ∀ q ∈ xs, QL q n) (hn1 : 1 ≤ n) (hn : n ≤ 1048576) : GT xs z (t ++ [dW 1 a 0]) ∧ eJ xs (t ++ [dW 1 a 0]) ((t.length : Nat) : Int) (xs.getD a.toNat 0) 1 n := by
  obtain ⟨g1, g2⟩ := nd_var (ss := szs t) h1 h2
  have hv : vV xs (evs xs t) (dW 1 a 0) = xs.getD a.toNat 0 := rfl
  have hq := qlg hx hn1 a.toNat
  exact ⟨h.snoc g1 (by rw [hv]; exact xQ hq hn) (fun e => absurd (show (1 : Int) = 5 from e) (by decide)), ndv_new hv (by omega) (by omega) hq⟩
theorem mk_bin {xs : List Rat} {z : Int} {t : List kK} {o a b : Int} {v w r : Rat} {s1 s2 s3 : Int} {m n k : Nat} (h : GT xs z t) (ho : o = 2 ∨ o = 3 ∨ o = 4 ∨ o = 5) (ha : eJ xs t a v s1 m) (hb : eJ xs t b w s2 n) (hs : s1 + s2 ≤ s3) (h3 : s3 ≤ 4096)
    (hr : r = if o = 2 then v + w else if o = 3 then v - w else if o = 4 then v * w else v / w) (hq : QL r k) (hk : k ≤ 1048576) (hz : o = 5 → w ≠ 0) : GT xs z (t ++ [dW o a b]) ∧ eJ xs (t ++ [dW o a b]) ((t.length : Nat) : Int) r s3 k := by
  have a1 := ha.sb; have b1 := hb.sb; have a2 := ha.s1; have b2 := hb.s1
  obtain ⟨g1, g2⟩ := nd_bin (z := z) (ss := szs t) ho ⟨ha.lo, by rw [cF]; exact ha.hi⟩ ⟨hb.lo, by rw [cF]; exact hb.hi⟩ (by omega)
  have hv : vV xs (evs xs t) (dW o a b) = r := by
    rw [hr]
    unfold vV dW
    dsimp only
    rw [ha.vl, hb.vl]
    rcases ho with e | e | e | e <;> subst e <;> simp
  exact ⟨h.snoc g1 (by rw [hv]; exact xQ hq hk) (fun e => by show (evs xs t).getD b.toNat 0 ≠ 0; rw [hb.vl]; exact hz e), ndv_new hv (by omega) (by omega) hq⟩
theorem mk_sq {xs : List Rat} {z : Int} {t : List kK} {a : Int} {v : Rat} {s1 s3 : Int} {m : Nat} (h : GT xs z t) (ha : eJ xs t a v s1 m) (hs : 2 * s1 ≤ s3) (h3 : s3 ≤ 4096) (hk : m + m ≤ 1048576) : GT xs z (t ++ [dW 7 a 0]) ∧ eJ xs (t ++ [dW 7 a 0]) ((t.length : Nat) : Int) (v * v) s3 (m + m) := by
  have a1 := ha.sb; have a2 := ha.s1
  obtain ⟨g1, g2⟩ := nd_sq (z := z) (ss := szs t) ⟨ha.lo, by rw [cF]; exact ha.hi⟩ (by omega)
  have hv : vV xs (evs xs t) (dW 7 a 0) = v * v := by
    unfold vV dW
    dsimp only
    rw [ha.vl]; simp
  have hq := qF ha.qb ha.qb (Nat.le_refl (m + m))
  exact ⟨h.snoc g1 (by rw [hv]; exact xQ hq hk) (fun e => absurd (show (7 : Int) = 5 from e) (by decide)), ndv_new hv (by omega) (by omega) hq⟩
def dfT (L : List kK) (p q : Int) : List kK := ((L ++ [dW 1 p 0]) ++ [dW 1 q 0]) ++ [dW 3 ((L.length : Nat) : Int) (((L ++ [dW 1 p 0]).length : Nat) : Int)]
def vS (L : List kK) (a b : List Int) : Nat → List kK
  | 0 => L
  | i + 1 => dfT (vS L a b i) (b.getD i 0) (a.getD i 0)
theorem dfT_len (L : List kK) (p q : Int) : (dfT L p q).length = L.length + 3 := by simp [dfT]
theorem qW (L : List kK) (a b : List Int) : ∀ i, (vS L a b i).length = L.length + 3 * i
  | 0 => rfl
  | i + 1 => by rw [vS, dfT_len, qW L a b i]; omega
def xB (m : Nat) (n : Nat) : List Int := (List.range n).map fun i => ((m + 3 * i + 2 : Nat) : Int)
def opT (o : Int) (L : List kK) (a b : Nat → Int) : Nat → List kK
  | 0 => L
  | i + 1 => opT o L a b i ++ [dW o (a i) (b i)]
theorem mS (o : Int) (L : List kK) (a b : Nat → Int) : ∀ i, (opT o L a b i).length = L.length + i
  | 0 => rfl
  | i + 1 => by rw [opT, List.length_append, mS o L a b i]; rfl
def opI (m n : Nat) : List Int := (List.range n).map fun i => ((m + i : Nat) : Int)
def smI (m : Nat) (f : Int) (i : Nat) : Int := if i = 0 then f else ((m + i - 1 : Nat) : Int)
def smT (L : List kK) (f : Int) (r : List Int) (n : Nat) : List kK := opT 2 L (smI L.length f) (fun i => r.getD i 0) n
def sqT (L : List kK) (l : List Int) : List kK := opT 7 L (fun i => l.getD i 0) (fun _ => 0) l.length
def pdT (L : List kK) (a b : List Int) : List kK := opT 4 L (fun i => a.getD i 0) (fun i => b.getD i 0) a.length
def ssT (L : List kK) (l : List Int) : List kK := smT (sqT L l) ((opI L.length l.length).getD 0 0) ((opI L.length l.length).drop 1) (l.length - 1)
def ssI (L : List kK) (l : List Int) : Int := smI (sqT L l).length ((opI L.length l.length).getD 0 0) (l.length - 1)
def spT (L : List kK) (a b : List Int) : List kK := smT (pdT L a b) ((opI L.length a.length).getD 0 0) ((opI L.length a.length).drop 1) (a.length - 1)
def spI (L : List kK) (a b : List Int) : Int := smI (pdT L a b).length ((opI L.length a.length).getD 0 0) (a.length - 1)
theorem eJ.df {xs : List Rat} {t : List kK} {i : Int} {v : Rat} {s : Int} {n : Nat} (h : eJ xs t i v s n) (p q : Int) : eJ xs (dfT t p q) i v s n := ((h.snoc _).snoc _).snoc _
theorem eJ.op {xs : List Rat} {t : List kK} {j : Int} {v : Rat} {s : Int} {n : Nat} (h : eJ xs t j v s n) (o : Int) (a b : Nat → Int) : ∀ i, eJ xs (opT o t a b i) j v s n
  | 0 => h
  | i + 1 => (h.op o a b i).snoc _
theorem eJ.vc {xs : List Rat} {t : List kK} {j : Int} {v : Rat} {s : Int} {n : Nat} (h : eJ xs t j v s n) (a b : List Int) : ∀ i, eJ xs (vS t a b i) j v s n
  | 0 => h
  | i + 1 => (h.vc a b i).df _ _
def pxs (xs : List Rat) (k : Int) : Rat := xs.getD k.toNat 0
theorem df_ok {xs : List Rat} {z : Int} {L : List kK} {p q : Int} (h : GT xs z L) (hp : 0 ≤ p ∧ p < z) (hq : 0 ≤ q ∧ q < z) (hx : ∀ q ∈ xs, QL q 3) : GT xs z (dfT L p q) ∧ eJ xs (dfT L p q) ((L.length + 2 : Nat) : Int) (pxs xs p - pxs xs q) 2 7 := by
  obtain ⟨g1, d1⟩ := mk_var h hp.1 hp.2 hx (by decide) (by decide)
  obtain ⟨g2, d2⟩ := mk_var g1 hq.1 hq.2 hx (by decide) (by decide)
  have := mk_bin (o := 3) (r := pxs xs p - pxs xs q) (k := 7) g2 (by omega) (d1.snoc _) d2 (Int.le_refl _) (by decide) rfl (dS d1.qb d2.qb (by decide)) (by decide) (fun e => absurd e (by decide))
  rw [show (((L ++ [dW 1 p 0] ++ [dW 1 q 0]).length : Nat) : Int) = ((L.length + 2 : Nat) : Int) by simp] at this
  exact this
theorem vc_ok {xs : List Rat} {z : Int} {L : List kK} {a b : List Int} (h : GT xs z L) (hx : ∀ q ∈ xs, QL q 3) : ∀ i, (∀ j, j < i → (0 ≤ a.getD j 0 ∧ a.getD j 0 < z) ∧ 0 ≤ b.getD j 0 ∧ b.getD j 0 < z) →
    GT xs z (vS L a b i) ∧ ∀ j, j < i → eJ xs (vS L a b i) ((L.length + 3 * j + 2 : Nat) : Int) (pxs xs (b.getD j 0) - pxs xs (a.getD j 0)) 2 7
  | 0, _ => ⟨h, fun j hj => absurd hj (Nat.not_lt_zero j)⟩
  | i + 1, hr => by
    obtain ⟨h1, h2⟩ := vc_ok h hx i (fun j hj => hr j (by omega))
    obtain ⟨g1, g2⟩ := df_ok h1 (hr i (by omega)).2 (hr i (by omega)).1 hx
    refine ⟨g1, fun j hj => ?_⟩
    rcases Nat.lt_or_ge j i with h3 | h3
    · exact (h2 j h3).df _ _
    · obtain rfl : j = i := by omega
      rw [qW] at g2
      exact g2
theorem sq_ok {xs : List Rat} {z : Int} {L : List kK} {a : Nat → Int} {v : Nat → Rat} (h : GT xs z L) : ∀ i, (∀ j, j < i → eJ xs L (a j) (v j) 2 7) → GT xs z (opT 7 L a (fun _ => 0) i) ∧ ∀ j, j < i → eJ xs (opT 7 L a (fun _ => 0) i) ((L.length + j : Nat) : Int) (v j * v j) 4 14
  | 0, _ => ⟨h, fun j hj => absurd hj (Nat.not_lt_zero j)⟩
  | i + 1, hr => by
    obtain ⟨h1, h2⟩ := sq_ok h i (fun j hj => hr j (by omega))
    obtain ⟨g1, g2⟩ := mk_sq (s3 := 4) h1 ((hr i (by omega)).op 7 a (fun _ => 0) i) (by decide) (by decide) (by decide)
    rw [mS] at g2
    refine ⟨g1, fun j hj => ?_⟩
    rcases Nat.lt_or_ge j i with h3 | h3
    · exact (h2 j h3).snoc _
    · obtain rfl : j = i := by omega
      exact g2
theorem pd_ok {xs : List Rat} {z : Int} {L : List kK} {a b : Nat → Int} {v w : Nat → Rat} (h : GT xs z L) : ∀ i, (∀ j, j < i → eJ xs L (a j) (v j) 2 7) → (∀ j, j < i → eJ xs L (b j) (w j) 2 7) → GT xs z (opT 4 L a b i) ∧ ∀ j, j < i → eJ xs (opT 4 L a b i) ((L.length + j : Nat) : Int) (v j * w j) 4 14
  | 0, _, _ => ⟨h, fun j hj => absurd hj (Nat.not_lt_zero j)⟩
  | i + 1, hr, hs => by
    obtain ⟨h1, h2⟩ := pd_ok h i (fun j hj => hr j (by omega)) (fun j hj => hs j (by omega))
    have ha := (hr i (by omega)).op 4 a b i
    have hb := (hs i (by omega)).op 4 a b i
    obtain ⟨g1, g2⟩ := mk_bin (o := 4) (r := v i * w i) (s3 := 4) (k := 14) h1 (by omega) ha hb (by decide) (by decide) rfl (qF ha.qb hb.qb (by decide)) (by decide) (fun e => absurd e (by decide))
    rw [mS] at g2
    refine ⟨g1, fun j hj => ?_⟩
    rcases Nat.lt_or_ge j i with h3 | h3
    · exact (h2 j h3).snoc _
    · obtain rfl : j = i := by omega
      exact g2
def smV (v : Nat → Rat) : Nat → Rat
  | 0 => v 0
  | i + 1 => smV v i + v (i + 1)
theorem sm_ok {xs : List Rat} {z : Int} {L : List kK} {f : Int} {r : List Int} {v : Nat → Rat} (h : GT xs z L) (hf : eJ xs L f (v 0) 4 14) : ∀ i, i ≤ 60 → (∀ j, j < i → eJ xs L (r.getD j 0) (v (j + 1)) 4 14) → GT xs z (smT L f r i) ∧ eJ xs (smT L f r i) (smI L.length f i) (smV v i) (4 * ((i : Int) + 1)) (15 * (i + 1))
  | 0, _, _ => ⟨h, hf.up (by decide) (by decide)⟩
  | i + 1, hi, hr => by
    obtain ⟨h1, h2⟩ := sm_ok h hf i (by omega) (fun j hj => hr j (by omega))
    have hb := (hr i (by omega)).op 2 (smI L.length f) (fun i => r.getD i 0) i
    obtain ⟨g1, g2⟩ := mk_bin (o := 2) (r := smV v (i + 1)) (s3 := 4 * (((i + 1 : Nat) : Int) + 1)) (k := 15 * (i + 1 + 1)) h1 (by omega) h2 hb (by omega) (by omega) rfl (nS h2.qb hb.qb (by omega)) (by omega) (fun e => absurd e (by decide))
    refine ⟨g1, ?_⟩
    rw [show (((smT L f r i).length : Nat) : Int) = smI L.length f (i + 1) by unfold smT smI; rw [mS, if_neg (by omega)]; omega] at g2
    exact g2
theorem opI_get {m n j : Nat} (h : j < n) : (opI m n).getD j 0 = ((m + j : Nat) : Int) := by
  unfold opI
  rw [List.getD_eq_getElem?_getD, List.getElem?_map, List.getElem?_range h]; rfl
theorem opI_drop {m n j : Nat} (h : j + 1 < n) : ((opI m n).drop 1).getD j 0 = ((m + (j + 1) : Nat) : Int) := by
  rw [List.getD_eq_getElem?_getD, List.getElem?_drop, ← List.getD_eq_getElem?_getD, Nat.add_comm 1 j, opI_get h]
theorem vcI_get {m n j : Nat} (h : j < n) : (xB m n).getD j 0 = ((m + 3 * j + 2 : Nat) : Int) := by
  unfold xB
  rw [List.getD_eq_getElem?_getD, List.getElem?_map, List.getElem?_range h]; rfl
theorem qS (m n : Nat) : (xB m n).length = n := by simp [xB]
theorem vcI_lt {m n j : Nat} (h : j < n) : j < (xB m n).length := by rw [qS]; exact h
theorem opI_len (m n : Nat) : (opI m n).length = n := by simp [opI]
theorem ss_ok {xs : List Rat} {z : Int} {L : List kK} {l : List Int} {v : Nat → Rat} (h : GT xs z L) (h1 : 1 ≤ l.length) (h3 : l.length ≤ 3) (hl : ∀ j, j < l.length → eJ xs L (l.getD j 0) (v j) 2 7) : GT xs z (ssT L l) ∧ eJ xs (ssT L l) (ssI L l) (smV (fun j => v j * v j) (l.length - 1)) 12 45 := by
  obtain ⟨g1, g2⟩ := sq_ok h l.length hl
  have hf := g2 0 (by omega)
  rw [← opI_get (m := L.length) (n := l.length) (j := 0) (by omega)] at hf
  obtain ⟨k1, k2⟩ := sm_ok (r := (opI L.length l.length).drop 1) (v := fun j => v j * v j) g1 hf (l.length - 1) (by omega) (fun j hj => by rw [opI_drop (by omega)]; exact g2 (j + 1) (by omega))
  exact ⟨k1, k2.up (by omega) (by omega)⟩
theorem sp_ok {xs : List Rat} {z : Int} {L : List kK} {a b : List Int} {v w : Nat → Rat} (h : GT xs z L) (h1 : 1 ≤ a.length) (h3 : a.length ≤ 3) (ha : ∀ j, j < a.length → eJ xs L (a.getD j 0) (v j) 2 7) (hb : ∀ j, j < a.length → eJ xs L (b.getD j 0) (w j) 2 7) : GT xs z (spT L a b) ∧ eJ xs (spT L a b) (spI L a b) (smV (fun j => v j * w j) (a.length - 1)) 12 45 := by
  obtain ⟨g1, g2⟩ := pd_ok h a.length ha hb
  have hf := g2 0 (by omega)
  rw [← opI_get (m := L.length) (n := a.length) (j := 0) (by omega)] at hf
  obtain ⟨k1, k2⟩ := sm_ok (r := (opI L.length a.length).drop 1) (v := fun j => v j * w j) g1 hf (a.length - 1) (by omega) (fun j hj => by rw [opI_drop (by omega)]; exact g2 (j + 1) (by omega))
  exact ⟨k1, k2.up (by omega) (by omega)⟩
theorem eJ.ss {xs : List Rat} {t : List kK} {j : Int} {v : Rat} {s : Int} {n : Nat} (h : eJ xs t j v s n) (l : List Int) : eJ xs (ssT t l) j v s n := (h.op _ _ _ _).op _ _ _ _
theorem eJ.sp {xs : List Rat} {t : List kK} {j : Int} {v : Rat} {s : Int} {n : Nat} (h : eJ xs t j v s n) (a b : List Int) : eJ xs (spT t a b) j v s n := (h.op _ _ _ _).op _ _ _ _
theorem sum_len (L : List kK) (f : Int) (r : List Int) (n : Nat) : (smT L f r n).length = L.length + n := mS _ _ _ _ _
def dstT (a b : List Int) : List kK := ssT (vS [] a b a.length) (xB 0 a.length)
def cosT (a b c : List Int) : List kK :=
  let l0 := vS [] a b a.length
  let l1 := vS l0 a c a.length
  let u := xB 0 a.length
  let w := xB l0.length a.length
  let l2 := spT l1 u w ++ [dW 7 (spI l1 u w) 0]
  let l3 := ssT (ssT l2 u) w
  (l3 ++ [dW 4 (ssI l2 u) (ssI (ssT l2 u) w)]) ++ [dW 5 (((spT l1 u w).length : Nat) : Int) ((l3.length : Nat) : Int)]
def areT (a b c : List Int) : List kK :=
  let l0 := vS [] a b 2
  let l1 := vS l0 a c 2
  let w := xB l0.length 2
  let l2 := l1 ++ [dW 4 ((xB 0 2).getD 0 0) (w.getD 1 0)]
  (l2 ++ [dW 4 ((xB 0 2).getD 1 0) (w.getD 0 0)]) ++ [dW 3 ((l1.length : Nat) : Int) ((l2.length : Nat) : Int)]
def dfV (xs : List Rat) (a b : List Int) (j : Nat) : Rat := pxs xs (b.getD j 0) - pxs xs (a.getD j 0)
theorem GT.c0 {xs : List Rat} {z : Int} {t : List kK} (h : GT xs z t) (hz : 0 ≤ z ∧ z ≤ 64) (h1 : t.length ≠ 0) (h4 : t.length ≤ 400) : eY z t = 0 := (tm_yes (by omega) h1 (by omega) h.nd).1
theorem GT.run {xs : List Rat} {t : List kK} (h : GT xs ((xs.length : Nat) : Int) t) (hz : xs.length ≤ 64) (h1 : t.length ≠ 0) (h4 : t.length ≤ 400) : VRun xs t := ⟨h.c0 (by omega) h1 h4, h.up⟩
theorem lastV_of {xs : List Rat} {t : List kK} {v : Rat} {s : Int} {n : Nat} (h : eJ xs t ((t.length - 1 : Nat) : Int) v s n) : fX xs t = v := by
  have := h.vl
  rw [Int.toNat_natCast] at this
  exact this
def okL (z : Int) (n : Nat) (a : List Int) : Prop := a.length = n ∧ ∀ j, j < n → 0 ≤ a.getD j 0 ∧ a.getD j 0 < z
theorem dst_ok {xs : List Rat} {a b : List Int} {n : Nat} (hn : 1 ≤ n ∧ n ≤ 3) (hx : ∀ q ∈ xs, QL q 3) (hxl : xs.length ≤ 64) (ha : okL ((xs.length : Nat) : Int) n a) (hb : okL ((xs.length : Nat) : Int) n b) : VRun xs (dstT a b) ∧ fX xs (dstT a b) = smV (fun j => dfV xs a b j * dfV xs a b j) (n - 1) := by
  obtain ⟨ha0, ha⟩ := ha
  obtain ⟨hb0, hb⟩ := hb
  unfold dstT
  rw [ha0]
  obtain ⟨g1, g2⟩ := vc_ok (a := a) (b := b) (GT.nil xs ((xs.length : Nat) : Int)) hx n (fun j hj => ⟨ha j hj, hb j hj⟩)
  obtain ⟨k1, k2⟩ := ss_ok (l := xB 0 n) (v := dfV xs a b) g1 (by rw [qS]; omega) (by rw [qS]; omega) (fun j hj => by
    rw [qS] at hj
    rw [vcI_get hj]
    exact g2 j hj)
  rw [qS] at k2
  have hl : (ssT (vS [] a b n) (xB 0 n)).length = 5 * n - 1 := by
    unfold ssT; rw [sum_len, sqT, mS, qW, qS]; simp; omega
  refine ⟨k1.run hxl (by omega) (by omega), ?_⟩
  refine lastV_of (s := 12) (n := 45) ?_
  rw [show ((((ssT (vS [] a b n) (xB 0 n)).length - 1 : Nat) : Int)) = ssI (vS [] a b n) (xB 0 n) by
    rw [hl]; unfold ssI smI; rw [qS, sqT, mS, qW, qS, opI_get (by omega)]
    split <;> simp <;> omega]
  exact k2
theorem vcI_succ (m n : Nat) : xB m (n + 1) = xB m n ++ [((m + 3 * n + 2 : Nat) : Int)] := by simp [xB, List.range_succ]
theorem opI_succ (m n : Nat) : opI m (n + 1) = opI m n ++ [((m + n : Nat) : Int)] := by simp [opI, List.range_succ]
theorem smI_succ (m : Nat) (f : Int) (i : Nat) : smI m f (i + 1) = ((m + i : Nat) : Int) := by unfold smI; rw [if_neg (by omega)]; rfl
def crE (a : List Int) : Bool := ((a.length : Nat) : Int) == 0
def crM (n : Nat) (a : List Int) : Bool := ((a.length : Nat) : Int) != ((n : Nat) : Int)
def crK (k : Int) : Bool := decide (k < 0) || decide (64 ≤ k)
def cI (ls : List (List Int)) : Nat := bif ls.any crE then 6 else bif ls.any (crM (ls.getD 0 []).length) then 4 else bif decide (3 < (((ls.getD 0 []).length : Nat) : Int)) then 3 else bif ls.any (fun a => a.any crK) then 2 else 0
theorem aN {α : Type} {f : α → Bool} {l : List α} {i : Nat} {d : α} (hi : i < l.length) (h : (l.take i).any f = false) (hf : f (l.getD i d) = false) : (l.take (i + 1)).any f = false := by
  rw [List.take_succ_eq_append_getElem hi, List.any_append, h, Bool.false_or, List.any_cons, List.any_nil, Bool.or_false]
  rwa [List.getD_eq_getElem?_getD, List.getElem?_eq_getElem hi] at hf
theorem aA {α : Type} {f : α → Bool} {l : List α} {i : Nat} {d : α} (hi : i < l.length) (hf : f (l.getD i d) = true) : l.any f = true := by
  rw [List.getD_eq_getElem?_getD, List.getElem?_eq_getElem hi] at hf
  exact List.any_eq_true.2 ⟨_, List.getElem_mem _, hf⟩
theorem dH {α : Type} {f : α → Bool} {l : List α} {i : Nat} (hi : l.length ≤ i) (h : (l.take i).any f = false) : l.any f = false := by rwa [List.take_of_length_le hi] at h
theorem crd_6 {ls : List (List Int)} (h : ls.any crE = true) : cI ls = 6 := by unfold cI; rw [h]; rfl
theorem crd_4 {ls : List (List Int)} (h : ls.any crE = false) (h1 : ls.any (crM (ls.getD 0 []).length) = true) : cI ls = 4 := by unfold cI; rw [h, h1]; rfl
theorem crd_3 {ls : List (List Int)} (h : ls.any crE = false) (h1 : ls.any (crM (ls.getD 0 []).length) = false) (h2 : 3 < (((ls.getD 0 []).length : Nat) : Int)) : cI ls = 3 := by unfold cI; rw [h, h1, decide_eq_true h2]; rfl
theorem crd_2 {ls : List (List Int)} (h : ls.any crE = false) (h1 : ls.any (crM (ls.getD 0 []).length) = false) (h2 : ¬ 3 < (((ls.getD 0 []).length : Nat) : Int)) (h3 : ls.any (fun a => a.any crK) = true) : cI ls = 2 := by unfold cI; rw [h, h1, decide_eq_false h2, h3]; rfl
theorem crd_0 {ls : List (List Int)} (h : ls.any crE = false) (h1 : ls.any (crM (ls.getD 0 []).length) = false) (h2 : ¬ 3 < (((ls.getD 0 []).length : Nat) : Int)) (h3 : ls.any (fun a => a.any crK) = false) : cI ls = 0 := by unfold cI; rw [h, h1, decide_eq_false h2, h3]; rfl
theorem crd_of {ls : List (List Int)} (h : cI ls = 0) : ls.any crE = false ∧ ls.any (crM (ls.getD 0 []).length) = false ∧ ¬ 3 < (((ls.getD 0 []).length : Nat) : Int) ∧ ls.any (fun a => a.any crK) = false := by
  unfold cI at h
  cases h1 : ls.any crE with
  | true => rw [h1] at h; cases h
  | false =>
    cases h2 : ls.any (crM (ls.getD 0 []).length) with
    | true => rw [h1, h2] at h; cases h
    | false =>
      by_cases h3 : 3 < (((ls.getD 0 []).length : Nat) : Int)
      · rw [h1, h2, decide_eq_true h3] at h; cases h
      · cases h4 : ls.any (fun a => a.any crK) with
        | true => rw [h1, h2, decide_eq_false h3, h4] at h; cases h
        | false => exact ⟨rfl, rfl, h3, rfl⟩
theorem crK_of {a : List Int} (h : a.any crK = false) {j : Nat} (hj : j < a.length) : 0 ≤ a.getD j 0 ∧ a.getD j 0 < 64 := by
  have := List.any_eq_false.1 h (a.getD j 0) (by rw [List.getD_eq_getElem?_getD, List.getElem?_eq_getElem hj]; exact List.getElem_mem _)
  unfold crK at this
  rw [Bool.not_eq_true, Bool.or_eq_false_iff, decide_eq_false_iff_not, decide_eq_false_iff_not] at this
  omega
structure CrOk (ls : List (List Int)) (n : Nat) : Prop where
  n1 : 1 ≤ n
  n3 : n ≤ 3
  all : ∀ a ∈ ls, a.length = n ∧ a.any crK = false
theorem crd_ok {ls : List (List Int)} (h : cI ls = 0) (h0 : 0 < ls.length) : CrOk ls (ls.getD 0 []).length := by
  obtain ⟨h1, h2, h3, h4⟩ := crd_of h
  have hm : ls.getD 0 [] ∈ ls := by rw [List.getD_eq_getElem?_getD, List.getElem?_eq_getElem h0]; exact List.getElem_mem _
  have e := List.any_eq_false.1 h1 _ hm
  unfold crE at e
  rw [Bool.not_eq_true, beq_eq_false_iff_ne] at e
  refine ⟨by omega, by omega, fun a ha => ⟨?_, ?_⟩⟩
  · have := List.any_eq_false.1 h2 a ha
    unfold crM at this
    rw [Bool.not_eq_true, bne_eq_false_iff_eq] at this
    omega
  · exact Bool.eq_false_iff.2 (List.any_eq_false.1 h4 a ha)
theorem CrOk.le {ls : List (List Int)} {n : Nat} (h : CrOk ls n) {a : List Int} (ha : a ∈ ls) {z : Int} (hb : ∀ k ∈ a, ¬ (8 < k ∧ k < 64)) (hz : z = 9) : okL z n a := by
  obtain ⟨h1, h2⟩ := h.all a ha
  refine ⟨h1, fun j hj => ?_⟩
  have := crK_of h2 (j := j) (by omega)
  have := hb (a.getD j 0) (by rw [List.getD_eq_getElem?_getD, List.getElem?_eq_getElem (by omega)]; exact List.getElem_mem _)
  omega
theorem cos_pre {xs : List Rat} {a b c : List Int} {n : Nat} (hn : 1 ≤ n ∧ n ≤ 3) (hx : ∀ q ∈ xs, QL q 3) (ha : okL ((xs.length : Nat) : Int) n a) (hb : okL ((xs.length : Nat) : Int) n b) (hc : okL ((xs.length : Nat) : Int) n c) :
    let l1 := vS (vS [] a b n) a c n
    GT xs ((xs.length : Nat) : Int) l1 ∧ (∀ j, j < n → eJ xs l1 ((xB 0 n).getD j 0) (dfV xs a b j) 2 7) ∧ (∀ j, j < n → eJ xs l1 ((xB (3 * n) n).getD j 0) (dfV xs a c j) 2 7) := by
  intro l1
  obtain ⟨g1, g2⟩ := vc_ok (a := a) (b := b) (GT.nil xs ((xs.length : Nat) : Int)) hx n (fun j hj => ⟨ha.2 j hj, hb.2 j hj⟩)
  obtain ⟨k1, k2⟩ := vc_ok (a := a) (b := c) g1 hx n (fun j hj => ⟨ha.2 j hj, hc.2 j hj⟩)
  refine ⟨k1, fun j hj => ?_, fun j hj => ?_⟩
  · rw [vcI_get hj]; exact (g2 j hj).vc a c n
  · rw [vcI_get hj]
    have := k2 j hj
    rw [qW] at this
    rw [show 3 * n + 3 * j + 2 = ([] : List kK).length + 3 * n + 3 * j + 2 by simp]
    exact this
theorem uN (L : List kK) (l : List Int) : (ssT L l).length = L.length + l.length + (l.length - 1) := by unfold ssT; rw [sum_len, sqT, mS]
theorem uS (L : List kK) (a b : List Int) : (spT L a b).length = L.length + a.length + (a.length - 1) := by unfold spT; rw [sum_len, pdT, mS]
theorem cos_ok {xs : List Rat} {a b c : List Int} {n : Nat} (hn : 1 ≤ n ∧ n ≤ 3) (hx : ∀ q ∈ xs, QL q 3) (ha : okL ((xs.length : Nat) : Int) n a) (hb : okL ((xs.length : Nat) : Int) n b) (hc : okL ((xs.length : Nat) : Int) n c) :
    ∃ (t : List kK) (p q : Int) (T W : Rat), cosT a b c = t ++ [dW 5 p q] ∧ t.length ≤ 60 ∧ GT xs ((xs.length : Nat) : Int) t ∧ eJ xs t p T 24 90 ∧ eJ xs t q W 24 90 ∧
      T = smV (fun j => dfV xs a b j * dfV xs a c j) (n - 1) * smV (fun j => dfV xs a b j * dfV xs a c j) (n - 1) ∧ W = smV (fun j => dfV xs a b j * dfV xs a b j) (n - 1) * smV (fun j => dfV xs a c j * dfV xs a c j) (n - 1) := by
  obtain ⟨ha0, _⟩ := ha
  obtain ⟨g0, g1, g2⟩ := cos_pre hn hx ⟨ha0, ‹_›⟩ hb hc
  unfold cosT
  rw [ha0]
  have hw0 : (vS [] a b n).length = 3 * n := by rw [qW]; simp
  dsimp only
  rw [hw0]
  generalize hl1 : vS (vS [] a b n) a c n = l1 at g0 g1 g2
  have hl1l : l1.length = 6 * n := by rw [← hl1, qW, hw0]; omega
  generalize hu : xB 0 n = u at g1
  generalize hw : xB (3 * n) n = w at g2
  have hul : u.length = n := by rw [← hu]; exact qS _ _
  have hwl : w.length = n := by rw [← hw]; exact qS _ _
  obtain ⟨p1, p2⟩ := sp_ok (a := u) (b := w) (v := dfV xs a b) (w := dfV xs a c) g0 (by omega) (by omega) (fun j hj => g1 j (by omega)) (fun j hj => g2 j (by omega))
  obtain ⟨q1, q2⟩ := mk_sq (s3 := 24) p1 p2 (by decide) (by decide) (by decide)
  obtain ⟨r1, r2⟩ := ss_ok (l := u) (v := dfV xs a b) q1 (by omega) (by omega) (fun j hj => ((g1 j (by omega)).sp u w).snoc _)
  obtain ⟨s1, s2⟩ := ss_ok (l := w) (v := dfV xs a c) r1 (by omega) (by omega) (fun j hj => (((g2 j (by omega)).sp u w).snoc _).ss u)
  obtain ⟨t1, t2⟩ := mk_bin (o := 4) (k := 90) s1 (by omega) (r2.ss w) s2 (by decide : (12 : Int) + 12 ≤ 24) (by decide) rfl (qF r2.qb s2.qb (by decide)) (by decide) (fun e => absurd e (by decide))
  have q3 := ((q2.ss u).ss w).snoc (dW 4 (ssI (spT l1 u w ++ [dW 7 (spI l1 u w) 0]) u) (ssI (ssT (spT l1 u w ++ [dW 7 (spI l1 u w) 0]) u) w))
  simp only [hul, hwl] at t2 q3
  refine ⟨_, _, _, _, _, rfl, ?_, t1, q3, t2, rfl, ?_⟩
  · rw [List.length_append, uN, uN, List.length_append, uS]; simp; omega
  · simp
theorem cos_run {xs : List Rat} {a b c : List Int} {n : Nat} (hn : 1 ≤ n ∧ n ≤ 3) (hx : ∀ q ∈ xs, QL q 3) (hxl : xs.length ≤ 64) (ha : okL ((xs.length : Nat) : Int) n a) (hb : okL ((xs.length : Nat) : Int) n b) (hc : okL ((xs.length : Nat) : Int) n c) {W T : Rat} (hW : W = smV (fun j => dfV xs a b j * dfV xs a b j) (n - 1) * smV (fun j => dfV xs a c j * dfV xs a c j) (n - 1)) (hT : T = smV (fun j => dfV xs a b j * dfV xs a c j) (n - 1) * smV (fun j => dfV xs a b j * dfV xs a c j) (n - 1)) :
    (W ≠ 0 → VRun xs (cosT a b c) ∧ fX xs (cosT a b c) = T / W) ∧ (W = 0 → ∃ k, VFail xs (cosT a b c) k) := by
  obtain ⟨t, p, q, T', W', e, hl, g, hp, hq, eT, eW⟩ := cos_ok hn hx ha hb hc
  rw [← hT] at eT; rw [← hW] at eW
  subst eT; subst eW
  rw [e]
  have qZ : (t ++ [dW 5 p q]).length = t.length + 1 := by simp
  refine ⟨fun hw => ?_, fun hw => ?_⟩
  · obtain ⟨k1, k2⟩ := mk_bin (o := 5) (r := T' / W') (s3 := 48) (k := 180) g (by omega) hp hq (by decide) (by decide) rfl (ql_div hp.qb hq.qb (by decide)) (by decide) (fun _ => hw)
    refine ⟨k1.run hxl (by omega) (by omega), lastV_of (s := 48) (n := 180) ?_⟩
    rw [qZ, Nat.add_sub_cancel]
    exact k2
  · have a1 := hp.sb; have b1 := hq.sb; have a2 := hp.s1; have b2 := hq.s1
    obtain ⟨g1, g2⟩ := nd_bin (z := ((xs.length : Nat) : Int)) (ss := szs t) (o := 5) (a := p) (b := q) (by omega) ⟨hp.lo, by rw [cF]; exact hp.hi⟩ ⟨hq.lo, by rw [cF]; exact hq.hi⟩ (by omega)
    have hnd := nd_snoc g.nd g1
    refine ⟨t.length, (tm_yes (by omega) (by omega) (by omega) hnd).1, by omega, up_snoc g.up, by rw [eV], ?_⟩
    rw [eV, vU_app xs t _ _ (Nat.le_refl _)]
    exact hq.vl.trans hw
theorem are_ok {xs : List Rat} {a b c : List Int} (hx : ∀ q ∈ xs, QL q 3) (hxl : xs.length ≤ 64) (ha : okL ((xs.length : Nat) : Int) 2 a) (hb : okL ((xs.length : Nat) : Int) 2 b) (hc : okL ((xs.length : Nat) : Int) 2 c) : VRun xs (areT a b c) ∧ fX xs (areT a b c) = dfV xs a b 0 * dfV xs a c 1 - dfV xs a b 1 * dfV xs a c 0 := by
  obtain ⟨g0, g1, g2⟩ := cos_pre (n := 2) (by decide) hx ha hb hc
  unfold areT
  have hw0 : (vS [] a b 2).length = 3 * 2 := by rw [qW]; rfl
  dsimp only
  rw [hw0]
  have hl1l : (vS (vS [] a b 2) a c 2).length = 12 := by rw [qW, hw0]
  generalize vS (vS [] a b 2) a c 2 = l1 at *
  obtain ⟨p1, p2⟩ := mk_bin (o := 4) (s3 := 4) (k := 14) g0 (by omega) (g1 0 (by decide)) (g2 1 (by decide)) (by decide) (by decide) rfl (qF (g1 0 (by decide)).qb (g2 1 (by decide)).qb (by decide)) (by decide) (fun e => absurd e (by decide))
  obtain ⟨q1, q2⟩ := mk_bin (o := 4) (s3 := 4) (k := 14) p1 (by omega) ((g1 1 (by decide)).snoc _) ((g2 0 (by decide)).snoc _) (by decide) (by decide) rfl (qF (g1 1 (by decide)).qb (g2 0 (by decide)).qb (by decide)) (by decide) (fun e => absurd e (by decide))
  obtain ⟨r1, r2⟩ := mk_bin (o := 3) (s3 := 8) (k := 29) q1 (by omega) (p2.snoc _) q2 (by decide) (by decide) rfl (dS p2.qb q2.qb (by decide)) (by decide) (fun e => absurd e (by decide))
  refine ⟨r1.run hxl (by simp) (by simp; omega), lastV_of (s := 8) (n := 29) ?_⟩
  simpa using r2
def cJ (xs : List Rat) (a b : List Int) : List Rat := (List.range a.length).map (dfV xs a b)
theorem awL_len (xs : List Rat) (a b : List Int) : (cJ xs a b).length = a.length := by simp [cJ]
theorem awL_get (xs : List Rat) (a b : List Int) {j : Nat} (h : j < a.length) : (cJ xs a b).getD j 0 = dfV xs a b j := by
  unfold cJ
  rw [List.getD_eq_getElem?_getD, List.getElem?_map, List.getElem?_range h]; rfl
theorem kV {xs : List Rat} (hx : ∀ q ∈ xs, QL q 3) (a b : List Int) : ∀ q ∈ cJ xs a b, QL q 7 := fun q hq => by
  obtain ⟨j, _, rfl⟩ := List.mem_map.1 hq
  exact dS (qlg hx (by decide) _) (qlg hx (by decide) _) (by decide)
theorem aw_step (xs : List Rat) (a b : List Int) (i : Nat) : (List.range i).map (fun j => jM (dfV xs a b j)) ++ [jM (dfV xs a b i)] = (List.range (i + 1)).map (fun j => jM (dfV xs a b j)) := by simp [List.range_succ]
def dtV (u v : List Rat) : Nat → Rat
  | 0 => 0
  | i + 1 => dtV u v i + u.getD i 0 * v.getD i 0
theorem dtV_sm {u v : List Rat} {f g : Nat → Rat} : ∀ n, (∀ j, j < n + 1 → u.getD j 0 = f j ∧ v.getD j 0 = g j) → dtV u v (n + 1) = smV (fun j => f j * g j) n
  | 0, h => by
    obtain ⟨h1, h2⟩ := h 0 (by decide)
    show 0 + u.getD 0 0 * v.getD 0 0 = f 0 * g 0
    rw [h1, h2]; grind
  | n + 1, h => by
    obtain ⟨h1, h2⟩ := h (n + 1) (by omega)
    show dtV u v (n + 1) + u.getD (n + 1) 0 * v.getD (n + 1) 0 = smV (fun j => f j * g j) n + f (n + 1) * g (n + 1)
    rw [dtV_sm n (fun j hj => h j (by omega)), h1, h2]
open Go.RowKit (Below)
section
variable {P : Program} {n : Fr} {C : bU} {a : Act} {w : World} {st : PS}
abbrev OSt := List (Nat × Obj)
structure ObjOk (C : bU) (w : World) (b : Nat) (o : Obj) : Prop where
  at_ : w.heap[b]? = some o
  nc : o.isCells = false
  nd : ∀ ds, o ≠ .deferred ds
  h0 : C.w0.heap.size ≤ b
  h1 : ∀ o', C.w1.heap[b]? = some o' → o'.isCells = true
def ObjsOk (C : bU) (w : World) (os : OSt) : Prop := ∀ p ∈ os, ObjOk C w p.1 p.2
structure XS where
  st : PS
  os : OSt
def SimO (C : bU) (a : Act) (w : World) (x : XS) : Prop := cL C a w x.st ∧ ObjsOk C w x.os
def OImp (x y : XS) : Prop := ∀ (C : bU) (a : Act) (w : World), SimO C a w x → SimO C a w y
variable {Q Q' : Exit → XS → Prop} {x y : XS} {os : OSt}
theorem OImp.trans {z : XS} (h : OImp x y) (k : OImp y z) : OImp x z := fun C a w hs => k C a w (h C a w hs)
theorem OImp.refl (x : XS) : OImp x x := fun _ _ _ h => h
inductive OStep (P : Program) (n : Fr) (ops : Array Oper) : XS → Oper → XS → Prop
  | old {st st' : PS} {o : Oper} {os : OSt} (h : Step P n ops st o st') : OStep P n ops ⟨st, os⟩ o ⟨st', os⟩
  | sem {x : XS} {o : Oper} {x' : XS} (h : ∀ (C : bU) (a : Act) (w : World) (K : Act → World → Prop) (Q : Exit → Act → World → Prop), C.n = n → SimO C a w x → (∀ a' w', SimO C a' w' x' → K a' w') → o.wp P a w K Q) (hg : o.guard = none) : OStep P n ops x o x'
inductive OSteps (P : Program) (n : Fr) (ops : Array Oper) (Y : XS → Prop) : XS → List Oper → Prop
  | nil {x : XS} (h : Y x) : OSteps P n ops Y x []
  | cons {x x' : XS} {o : Oper} {l : List Oper} (h : OStep P n ops x o x') (hr : OSteps P n ops Y x' l) : OSteps P n ops Y x (o :: l)
  | new {x : XS} {o : Oper} {l : List Oper} (X : Nat → XS) (h : ∀ (C : bU) (a : Act) (w : World) (K : Act → World → Prop) (Q : Exit → Act → World → Prop), C.n = n → SimO C a w x → (∀ a' w' b, SimO C a' w' (X b) → K a' w') → o.wp P a w K Q) (hg : o.guard = none) (hr : ∀ b, OSteps P n ops Y (X b) l) : OSteps P n ops Y x (o :: l)
  | ex {α : Type} {x : XS} {o : Oper} {l : List Oper} (X : α → XS) (I : α → Prop) (h : ∀ (C : bU) (a : Act) (w : World) (K : Act → World → Prop) (Q : Exit → Act → World → Prop), C.n = n → SimO C a w x → (∀ a' w' b, I b → SimO C a' w' (X b) → K a' w') → o.wp P a w K Q) (hg : o.guard = none) (hr : ∀ b, I b → OSteps P n ops Y (X b) l) : OSteps P n ops Y x (o :: l)
end
section
variable {P : Program} {T K E : TypeId} {w : World} {b : Nat} {p : List Int}
end
section
variable {P : Program} {n : Fr} {ops : Array Oper} {o : Oper} {S : Nat → SV}
variable {st : PS} {os : OSt} {b : Nat}
end
section
variable {P : Program} {n : Fr} {ops : Array Oper} {o : Oper} {S : SL} {B : BS} {os : OSt} {Y : XS → Prop} {l : List Oper}
end
section
variable {F : Fence} {N : Nat} {P : Program} {Q : Exit → Act → World → Prop} {a : Act} {w : World} {b : Frame} {k : List Item} {cs : List Frame}
end
section
variable {P : Program} {n : Fr} {Q : Exit → PS → Prop} {st : PS}
def Met {α : Type} (St : α → PS) (I : α → Prop) (s : PS) : Prop := ∃ y, uK s (St y) ∧ I y
theorem met {α : Type} {St : α → PS} {I : α → Prop} {s : PS} (y : α) (h1 : uK s (St y)) (h2 : I y) : Met St I s := ⟨y, h1, h2⟩
end
section
variable {P : Program} {S : SL} {B : BS} {o : Oper} {x y : Operand} {k : Nat} {T : TypeId}
theorem bxs_flen {α : Type} {F : α → kA} {s : Nat} (hF : ∀ g, (F g).cells.length = s) (L : List α) : (flat (L.map F)).length = L.length * s := by
  rw [vI (s := s) (fun e he => by obtain ⟨g, _, rfl⟩ := List.mem_map.1 he; exact hF g), List.length_map]
theorem bxs_cell {α : Type} {F : α → kA} {s : Nat} (hF : ∀ g, (F g).cells.length = s) {L : List α} {j r : Nat} (d : α) (hj : j < L.length) (hr : r < s) : (flat (L.map F))[j * s + r]? = (F (L.getD j d)).cells[r]? :=
  flat_get (s := s) (e := F (L.getD j d)) (fun e he => by obtain ⟨g, _, rfl⟩ := List.mem_map.1 he; exact hF g) (by simp [List.getD_eq_getElem?_getD, List.getElem?_eq_getElem hj]) hr
theorem bxs_room {j n s : Nat} (h : j < n) : j * s + s ≤ n * s := by
  have := Nat.mul_le_mul_right s (show j + 1 ≤ n from h)
  rwa [Nat.add_mul, Nat.one_mul] at this
theorem bxs_cut {α : Type} {F : α → kA} {s : Nat} (hF : ∀ g, (F g).cells.length = s) {L : List α} {j : Nat} (d : α) (hj : j < L.length) : ((qQ F L).drop (j * s)).take s = (F (L.getD j d)).cells.map SV.d := by
  apply List.ext_getElem?
  intro r
  unfold qQ
  rw [List.getElem?_take]
  split
  · rename_i hr
    rw [List.getElem?_drop, List.getElem?_map, bxs_cell hF d hj hr, List.getElem?_map]
  · rename_i hr
    rw [List.getElem?_eq_none (by rw [List.length_map, hF]; omega)]
theorem oLA {α : Type} {F : α → kA} {L : List α} {s : Nat} (hs : qL P T = some (true, s)) (j : Nat) (d : α) (ho : o.op = .load T x := by exact rfl) (hx : ev (kG S) x = .ref k (j * s) := by exact rfl) (hb : kF B k = some (qQ F L) := by exact rfl) (hF : ∀ g, (F g).cells.length = s := by intro g; kernel_rfl) (hG : ∀ g, yT true ((F g).cells.map SV.d) = .d (F g) := by intro g; kernel_rfl) (h1 : j < L.length := by omega) : ROk P o S B k (.d (F (L.getD j d))) := by
  have h := e_load_ref (P := P) (cs := qQ F L) ho hx hs (fun h => by cases h) (by unfold qQ; rw [List.length_map, bxs_flen hF]; exact bxs_room h1)
  rw [bxs_cut hF d h1, hG] at h
  exact ⟨_, h, hb⟩
end
section
variable {P : Program} {o : Oper}
end
section
variable {P : Program}
section
variable {o : Oper} {S : Nat → SV} {T T' : TypeId} {x y : Operand} {c : Nat}
end
end
def aggOf (s : Nat) (u : Nat → Value) : Value := .agg ((List.range s).map u).toArray
structure BacksS (P : Program) (fB fI : FuncId) (T : TypeId) (s : Nat) : Prop where
  call : ∀ (a : Option Addr) (len cap : Nat) (w : World), Calls P fB #[.slice a len cap] w fun e w' => e = .returned (.func (.func fI) #[] #[.pointer (some ⟨w.heap.size, 0, none⟩)]) ∧ w' = w.alloc (.cells #[.slice a len cap] T)
  empty : ∀ (N l b cap : Nat) (ao : Option Addr) (J : World → Prop) (W : World), W.cell? ⟨b, 0, none⟩ = some (.slice ao 0 cap) → J W →
    CallsIn Fence.wide (N + 1) P fI #[.func (.yield l) #[] #[], .pointer (some ⟨b, 0, none⟩)] W fun e W' => (∃ v, e = .returned v) ∧ J W'
  rounds : ∀ (N l c b off len cap : Nat) (u : Nat → Nat → Value), (len : Int) ≤ 9223372036854775807 → ∀ (J : Nat → World → Prop) (Jx : World → Prop),
    (∀ j W, J j W → W.cell? ⟨c, 0, none⟩ = some (.slice (some ⟨b, off, none⟩) len cap) ∧ ∀ i, i < len → ∀ r, r < s → W.cell? ⟨b, off + (i * s + r), none⟩ = some (u i r)) →
    (∀ j W, J j W → j < len → YieldAt Fence.wide N P l #[.int .i64 ((len : Int) - 1 - (j : Int)), aggOf s (u (len - 1 - j))] W fun e W' => (e = .returned (.bool true) ∧ J (j + 1) W') ∨ (e = .returned (.bool false) ∧ Jx W')) →
    ∀ W, J 0 W → CallsIn Fence.wide (N + 1) P fI #[.func (.yield l) #[] #[], .pointer (some ⟨c, 0, none⟩)] W fun e W' => (∃ v, e = .returned v) ∧ (J len W' ∨ Jx W')
  enters : ∀ args w, (callFunc fI args).run P w = .ok (.enter fI args) w
section
variable {C : bU} {a a' : Act} {w w' : World} {st : PS} {D : qJ} {β : qE}
variable {P : Program} {n : Fr} {fB fI : FuncId} {T : TypeId} {S : SL} {B : BS} {Q : Exit → PS → Prop} {α : Type}
end
section
variable {P : Program} {o : Oper} {S : Nat → SV} {x : Operand} {k T s n : Nat} {d : kA}
end
section
variable {P : Program} {o : Oper} {S : Nat → SV}
end
end Go.Fid
