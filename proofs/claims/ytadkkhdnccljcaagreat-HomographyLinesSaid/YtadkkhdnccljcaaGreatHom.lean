import Derived.Test.YtadkkhdnccljcaaGreatRat
/-
  Integers in reduced form: divided by their greatest common divisor, the first one that is not 0 positive. Plain Lean.
-/
set_option linter.unusedVariables false
set_option linter.unusedSimpArgs false
namespace Go.Fid
inductive LOk (n : Nat) : List RInt → List Int → Prop
  | nil : LOk n [] []
  | cons {x : RInt} {z : Int} {l : List RInt} {zs : List Int} (h : IOk x z n) (t : LOk n l zs) : LOk n (x :: l) (z :: zs)
theorem iok_zero : IOk ⟨false, []⟩ 0 1 := ⟨by decide, Nat.zero_le _⟩
theorem iok_nilN (n : Nat) : IOk ⟨false, []⟩ 0 n := ⟨by decide, Nat.zero_le _⟩
theorem LOk.len {n : Nat} {l : List RInt} {zs : List Int} (h : LOk n l zs) : l.length = zs.length := by
  induction h with
  | nil => rfl
  | cons h t ih => simp [ih]
theorem LOk.get {n : Nat} {l : List RInt} {zs : List Int} (h : LOk n l zs) (i : Nat) : IOk (l.getD i ⟨false, []⟩) (zs.getD i 0) n := by
  induction h generalizing i with
  | nil => exact iok_nilN n
  | cons h t ih =>
    rcases i with _ | i
    · exact h
    · exact ih i
theorem LOk.all {n : Nat} {l : List RInt} {zs : List Int} (h : LOk n l zs) : ∀ z ∈ zs, lenZ z ≤ n := by
  induction h with
  | nil => simp
  | cons h t ih =>
    intro z hz
    rcases List.mem_cons.1 hz with rfl | hz
    · exact h.ln
    · exact ih z hz
theorem LOk.up {m n : Nat} {l : List RInt} {zs : List Int} (h : LOk m l zs) (hm : m ≤ n) : LOk n l zs := by
  induction h with
  | nil => exact .nil
  | cons h t ih => exact .cons (iok_up h hm) ih
def gcdL (zs : List Int) : Nat := zs.foldl (fun d z => Int.gcd d z) 0
def sgnL : List Int → Int
  | [] => 0
  | z :: r => if z = 0 then sgnL r else signI z
def dvL (zs : List Int) : Int := if sgnL zs < 0 then -((gcdL zs : Nat) : Int) else ((gcdL zs : Nat) : Int)
def redL (zs : List Int) : List Int := zs.map fun z => z.fdiv (dvL zs)
theorem takeZ {l : List Int} {i : Nat} (h : i < l.length) : l.take (i + 1) = l.take i ++ [l.getD i 0] := by
  rw [List.take_succ_eq_append_getElem h]; simp [List.getD, List.getElem?_eq_getElem h]
theorem gcdL_step {zs : List Int} {i : Nat} (h : i < zs.length) : gcdL (zs.take (i + 1)) = Int.gcd ((gcdL (zs.take i) : Nat) : Int) (zs.getD i 0) := by
  unfold gcdL; rw [takeZ h, List.foldl_append]; rfl
theorem signI_zero : signI 0 = 0 := rfl
theorem signI_ne {z : Int} (h : z ≠ 0) : signI z ≠ 0 := by
  unfold signI; split <;> (try split) <;> omega
theorem sgnL_app0 {a b : List Int} (h : sgnL a = 0) : sgnL (a ++ b) = sgnL b := by
  induction a with
  | nil => rfl
  | cons z a ih =>
    simp only [sgnL] at h
    by_cases hz : z = 0
    · rw [if_pos hz] at h; simp only [List.cons_append, sgnL, if_pos hz]; exact ih h
    · rw [if_neg hz] at h; exact absurd h (signI_ne hz)
theorem sgnL_app1 {a b : List Int} (h : sgnL a ≠ 0) : sgnL (a ++ b) = sgnL a := by
  induction a with
  | nil => exact absurd rfl h
  | cons z a ih =>
    simp only [sgnL] at h
    by_cases hz : z = 0
    · rw [if_pos hz] at h; simp only [List.cons_append, sgnL, if_pos hz]; exact ih h
    · simp only [List.cons_append, sgnL, if_neg hz]
theorem sgnL_one (z : Int) : sgnL [z] = signI z := by
  simp only [sgnL]; split
  · rename_i h; rw [h]; rfl
  · rfl
theorem sgnL_step0 {zs : List Int} {i : Nat} {s : Int} (h : i < zs.length) (hs : s = sgnL (zs.take i)) (h0 : s = 0) : signI (zs.getD i 0) = sgnL (zs.take (i + 1)) := by
  rw [takeZ h, sgnL_app0 (hs ▸ h0), sgnL_one]
theorem sgnL_step1 {zs : List Int} {i : Nat} {s : Int} (h : i < zs.length) (hs : s = sgnL (zs.take i)) (h0 : s ≠ 0) : s = sgnL (zs.take (i + 1)) := by
  rw [takeZ h, sgnL_app1 (hs ▸ h0)]; exact hs
theorem lenZ_gcd2 {a b : Int} {n : Nat} (ha : lenZ a ≤ n) (hb : lenZ b ≤ n) : lenZ ((Int.gcd a b : Nat) : Int) ≤ n := by
  by_cases h : b = 0
  · subst h; rw [Int.gcd_zero_right]
    exact Nat.le_trans (lenZ_of_le (by simp)) ha
  · exact lenZ_gcd h hb
theorem gcdL_len {n : Nat} (zs : List Int) (h : ∀ z ∈ zs, lenZ z ≤ n) : lenZ ((gcdL zs : Nat) : Int) ≤ n := by
  have key : ∀ (zs : List Int) (d : Nat), lenZ (d : Int) ≤ n → (∀ z ∈ zs, lenZ z ≤ n) → lenZ ((zs.foldl (fun d z => Int.gcd d z) d : Nat) : Int) ≤ n := by
    intro zs
    induction zs with
    | nil => intro d hd _; exact hd
    | cons z zs ih => intro d hd hz; exact ih _ (lenZ_gcd2 hd (hz z (by simp))) (fun y hy => hz y (by simp [hy]))
  exact key zs 0 (lenZ_le.2 (by rw [show ((0 : Nat) : Int).natAbs = 0 from rfl]; exact pw_pos n)) h
theorem gcdL_takelen {n : Nat} {zs : List Int} (h : ∀ z ∈ zs, lenZ z ≤ n) (i : Nat) : IOk (ofZ ((gcdL (zs.take i) : Nat) : Int)) ((gcdL (zs.take i) : Nat) : Int) n :=
  iok_of (gcdL_len _ fun z hz => h z (List.mem_of_mem_take hz))
theorem dvL_len {n : Nat} {zs : List Int} (h : ∀ z ∈ zs, lenZ z ≤ n) : lenZ (dvL zs) ≤ n := by
  unfold dvL; split
  · rw [lenZ_neg]; exact gcdL_len zs h
  · exact gcdL_len zs h
theorem gcdL_dvd (zs : List Int) : ∀ z ∈ zs, ((gcdL zs : Nat) : Int) ∣ z := by
  have key : ∀ (zs : List Int) (d : Nat), ((zs.foldl (fun d z => Int.gcd d z) d : Nat) : Int) ∣ (d : Int) ∧ ∀ z ∈ zs, ((zs.foldl (fun d z => Int.gcd d z) d : Nat) : Int) ∣ z := by
    intro zs
    induction zs with
    | nil => intro d; exact ⟨Int.dvd_refl _, by simp⟩
    | cons z zs ih =>
      intro d
      obtain ⟨h1, h2⟩ := ih (Int.gcd d z)
      refine ⟨Int.dvd_trans h1 (Int.gcd_dvd_left ..), fun y hy => ?_⟩
      rcases List.mem_cons.1 hy with rfl | hy
      · exact Int.dvd_trans h1 (Int.gcd_dvd_right ..)
      · exact h2 y hy
  exact (key zs 0).2
theorem sgnL_ne {zs : List Int} (h : sgnL zs ≠ 0) : ∃ z ∈ zs, z ≠ 0 := by
  induction zs with
  | nil => exact absurd rfl h
  | cons z zs ih =>
    by_cases hz : z = 0
    · simp only [sgnL, if_pos hz] at h
      obtain ⟨y, hy, h2⟩ := ih h
      exact ⟨y, by simp [hy], h2⟩
    · exact ⟨z, by simp, hz⟩
theorem sgnL_of {zs : List Int} {z : Int} (hz : z ∈ zs) (h : z ≠ 0) : sgnL zs ≠ 0 := by
  induction zs with
  | nil => cases hz
  | cons y zs ih =>
    by_cases hy : y = 0
    · simp only [sgnL, if_pos hy]
      rcases List.mem_cons.1 hz with e | hz
      · subst e; exact absurd hy h
      · exact ih hz
    · simp only [sgnL, if_neg hy]; exact signI_ne hy
theorem gcdL_ne {zs : List Int} (h : sgnL zs ≠ 0) : gcdL zs ≠ 0 := fun e => by
  obtain ⟨z, hz, h0⟩ := sgnL_ne h
  have := gcdL_dvd zs z hz
  rw [e] at this
  exact h0 (Int.zero_dvd.1 this)
theorem dvL_ne {zs : List Int} (h : sgnL zs ≠ 0) : dvL zs ≠ 0 := by
  have := gcdL_ne h
  unfold dvL; split <;> omega
theorem dvL_dvd {zs : List Int} : ∀ z ∈ zs, dvL zs ∣ z := fun z hz => by
  unfold dvL; split
  · exact Int.neg_dvd.2 (gcdL_dvd zs z hz)
  · exact gcdL_dvd zs z hz
theorem fdiv_mulZ {d z : Int} (hd : d ≠ 0) (h : d ∣ z) : z.fdiv d * d = z := by
  obtain ⟨c, rfl⟩ := h
  rw [Int.mul_fdiv_cancel_left _ hd]; exact Int.mul_comm _ _
theorem red_dv {zs : List Int} (h : sgnL zs ≠ 0) {z : Int} (hz : z ∈ zs) : z.fdiv (dvL zs) * dvL zs = z := fdiv_mulZ (dvL_ne h) (dvL_dvd z hz)
theorem gcdL_scale (k : Int) (zs : List Int) : gcdL (zs.map (k * ·)) = k.natAbs * gcdL zs := by
  have key : ∀ (zs : List Int) (d : Nat), (zs.map (k * ·)).foldl (fun d z => Int.gcd d z) (k.natAbs * d) = k.natAbs * zs.foldl (fun d z => Int.gcd d z) d := by
    intro zs
    induction zs with
    | nil => intro d; rfl
    | cons z zs ih =>
      intro d
      rw [List.map_cons, List.foldl_cons, List.foldl_cons, ← ih (Int.gcd d z)]
      congr 1
      simp only [Int.gcd, Int.natAbs_mul, Int.natAbs_natCast]
      exact Nat.gcd_mul_left ..
  exact key zs 0
theorem signI_mul {k z : Int} (hk : k ≠ 0) : (signI (k * z) < 0 ↔ (k < 0 ∧ 0 < z) ∨ (0 < k ∧ z < 0)) := by
  have h1 : ∀ y : Int, signI y < 0 ↔ y < 0 := fun y => by unfold signI; split <;> (try split) <;> omega
  rw [h1]
  constructor
  · intro h
    rcases Int.lt_or_gt_of_ne hk with hk' | hk'
    · exact .inl ⟨hk', by rcases Int.lt_trichotomy z 0 with h' | h' | h'; · have := Int.mul_pos_of_neg_of_neg hk' h'; omega
                          · subst h'; simp at h
                          · exact h'⟩
    · exact .inr ⟨hk', by rcases Int.lt_trichotomy z 0 with h' | h' | h'; · exact h'
                          · subst h'; simp at h
                          · have := Int.mul_pos hk' h'; omega⟩
  · rintro (⟨a, b⟩ | ⟨a, b⟩)
    · exact Int.mul_neg_of_neg_of_pos a b
    · exact Int.mul_neg_of_pos_of_neg a b
theorem sgnL_scale {k : Int} (hk : k ≠ 0) (zs : List Int) : (sgnL (zs.map (k * ·)) = 0 ↔ sgnL zs = 0) ∧ (sgnL zs ≠ 0 → (sgnL (zs.map (k * ·)) < 0 ↔ (k < 0 ∧ ¬ sgnL zs < 0) ∨ (0 < k ∧ sgnL zs < 0))) := by
  induction zs with
  | nil => exact ⟨Iff.rfl, fun h => absurd rfl h⟩
  | cons z zs ih =>
    by_cases hz : z = 0
    · subst hz
      simpa [sgnL] using ih
    · have hkz : k * z ≠ 0 := Int.mul_ne_zero hk hz
      simp only [List.map_cons, sgnL, if_neg hz, if_neg hkz]
      refine ⟨⟨fun h => absurd h (signI_ne hkz), fun h => absurd h (signI_ne hz)⟩, fun _ => ?_⟩
      rw [signI_mul hk]
      have h1 : signI z < 0 ↔ z < 0 := by unfold signI; split <;> (try split) <;> omega
      rw [h1]; omega
theorem dvL_scale {k : Int} (hk : k ≠ 0) {zs : List Int} (h : sgnL zs ≠ 0) : dvL (zs.map (k * ·)) = k * dvL zs := by
  have h2 := (sgnL_scale hk zs).2 h
  unfold dvL
  rw [gcdL_scale, Int.natCast_mul]
  rcases Int.lt_or_gt_of_ne hk with hk' | hk'
  · have e : ((k.natAbs : Nat) : Int) = -k := by omega
    rw [e]
    by_cases hs : sgnL zs < 0
    · rw [if_neg (by rw [h2]; omega), if_pos hs, Int.neg_mul, Int.mul_neg]
    · rw [if_pos (by rw [h2]; omega), if_neg hs, Int.neg_mul, Int.neg_neg]
  · have e : ((k.natAbs : Nat) : Int) = k := by omega
    rw [e]
    by_cases hs : sgnL zs < 0
    · rw [if_pos (by rw [h2]; omega), if_pos hs, Int.mul_neg]
    · rw [if_neg (by rw [h2]; omega), if_neg hs]
theorem fdiv_scale {k z d : Int} (hk : k ≠ 0) (hd : d ≠ 0) (h : d ∣ z) : (k * z).fdiv (k * d) = z.fdiv d := by
  obtain ⟨c, rfl⟩ := h
  rw [Int.mul_fdiv_cancel_left _ hd, ← Int.mul_assoc, Int.mul_fdiv_cancel_left _ (Int.mul_ne_zero hk hd)]
theorem redL_scale {k : Int} (hk : k ≠ 0) {zs : List Int} (h : sgnL zs ≠ 0) : redL (zs.map (k * ·)) = redL zs := by
  unfold redL
  rw [dvL_scale hk h, List.map_map]
  apply List.map_congr_left
  intro z hz
  exact fdiv_scale hk (dvL_ne h) (dvL_dvd z hz)
theorem redL_back {zs : List Int} (h : sgnL zs ≠ 0) : (redL zs).map (dvL zs * ·) = zs := by
  unfold redL
  rw [List.map_map]
  conv => rhs; rw [← List.map_id zs]
  apply List.map_congr_left
  intro z hz
  show dvL zs * z.fdiv (dvL zs) = z
  rw [Int.mul_comm]; exact red_dv h hz
theorem redL_ne {zs : List Int} (h : sgnL zs ≠ 0) : sgnL (redL zs) ≠ 0 := fun e => by
  have := ((sgnL_scale (dvL_ne h) (redL zs)).1).2 e
  rw [redL_back h] at this
  exact h this
theorem dvL_red {zs : List Int} (h : sgnL zs ≠ 0) : dvL (redL zs) = 1 := by
  have h1 := dvL_scale (dvL_ne h) (redL_ne h)
  rw [redL_back h] at h1
  have h2 : dvL zs * 1 = dvL zs * dvL (redL zs) := by rw [Int.mul_one]; exact h1
  exact (Int.eq_of_mul_eq_mul_left (dvL_ne h) h2).symm
theorem redL_one {zs : List Int} (h : dvL zs = 1) : redL zs = zs := by
  unfold redL
  rw [h]
  conv => rhs; rw [← List.map_id zs]
  apply List.map_congr_left
  intro z _
  exact Int.fdiv_one z
theorem redL_same {zs : List Int} (h : sgnL zs ≠ 0) (e : redL zs = zs) : dvL zs = 1 := by rw [← e]; exact dvL_red h
def redB (l : List RInt) : Bool := l.all validI && (decide (sgnL (l.map toZ) ≠ 0) && decide (dvL (l.map toZ) = 1))
theorem LOk.map {n : Nat} {l : List RInt} {zs : List Int} (h : LOk n l zs) : l.map toZ = zs := by
  induction h with
  | nil => rfl
  | cons h t ih => rw [List.map_cons, ih, h.v]
theorem all_getD {l : List RInt} {i : Nat} (h : List.all l validI = true) (hi : i < l.length) : validI (l.getD i (RInt.mk false [])) = true := by
  rw [List.getD, List.getElem?_eq_getElem hi]
  exact List.all_eq_true.1 h _ (List.getElem_mem hi)
theorem dv_neg {zs : List Int} {s : Int} {g : Nat} (hs : s = sgnL zs) (hg : g = gcdL zs) (h : s < 0) : dvL zs = -((g : Nat) : Int) := by
  unfold dvL; rw [← hs, if_pos h, ← hg]
theorem dv_pos {zs : List Int} {s : Int} {g : Nat} (hs : s = sgnL zs) (hg : g = gcdL zs) (h : ¬ s < 0) : dvL zs = ((g : Nat) : Int) := by
  unfold dvL; rw [← hs, if_neg h, ← hg]
theorem cmpI_eq0 (a b : Int) : (cmpI a b == 0) = decide (a = b) := by
  unfold cmpI
  by_cases h : a < b
  · rw [if_pos h, decide_eq_false (by omega)]; rfl
  · rw [if_neg h]
    by_cases h2 : b < a
    · rw [if_pos h2, decide_eq_false (by omega)]; rfl
    · rw [if_neg h2, decide_eq_true (by omega)]; rfl
theorem redB_eq {n : Nat} {l : List RInt} {zs : List Int} (hl : LOk n l zs) (hv : List.all l validI = true) : redB l = ((sgnL zs != 0) && (cmpI (dvL zs) 1 == 0)) := by
  unfold redB
  rw [hv, hl.map, cmpI_eq0, Bool.true_and]
  congr 1
  simp [bne, BEq.beq]
def sumL (zs : List Int) : Int := zs.foldl (· + ·) 0
theorem sumL_step {zs : List Int} {i : Nat} (h : i < zs.length) : sumL (zs.take (i + 1)) = sumL (zs.take i) + zs.getD i 0 := by
  unfold sumL; rw [takeZ h, List.foldl_append]; rfl
theorem sumL3 (a b c : Int) : sumL [a, b, c] = a + b + c := by simp [sumL]
theorem sumL_len {zs : List Int} {i n : Nat} (h : ∀ z ∈ zs, lenZ z ≤ n) (hi : i ≤ 1000) : lenZ (sumL (zs.take i)) ≤ n + 1000 := by
  have key : ∀ i, lenZ (sumL (zs.take i)) ≤ n + i := by
    intro i
    induction i with
    | zero => exact lenZ_le.2 (by simpa [sumL] using pw_pos _)
    | succ i ih =>
      rcases Nat.lt_or_ge i zs.length with hlt | hge
      · rw [sumL_step hlt]
        refine lenZ_add ih (h (zs.getD i 0) ?_) (by omega)
        rw [List.getD, List.getElem?_eq_getElem hlt]; exact List.getElem_mem hlt
      · rw [List.take_of_length_le (by omega), ← List.take_of_length_le hge]; omega
  exact Nat.le_trans (key i) (by omega)
theorem redL_all {n : Nat} {zs : List Int} (h : ∀ z ∈ zs, lenZ z ≤ n) : ∀ z ∈ redL zs, lenZ z ≤ n := fun z hz => by
  unfold redL at hz
  obtain ⟨y, hy, rfl⟩ := List.mem_map.1 hz
  exact Nat.le_trans (lenZ_fdiv_dvd (dvL_dvd y hy)) (h y hy)
theorem red_iok {n : Nat} {l : List RInt} {zs cs : List Int} (hl : LOk n l zs) (hc : redL zs = cs) : ∀ c ∈ cs, IOk (ofZ c) c n := fun c hm => iok_of (redL_all hl.all c (by rw [hc]; exact hm))
def det3 (a b c d e f g h i : Int) : Int := a * (e * i - f * h) + b * (f * g - d * i) + c * (d * h - e * g)
theorem det3_cr (a b c d e f g h i : Int) : det3 a b c d e f g h i = (b * f - c * e) * g + (c * d - a * f) * h + (a * e - b * d) * i := by unfold det3; grind
theorem iok_eqz {x y : Int} {n : Nat} (h : x = y) (k : IOk (ofZ y) y n) : IOk (ofZ x) x n := h ▸ k
theorem dot_comm (a x b y c z : Int) : a * x + b * y + c * z = x * a + y * b + z * c := by rw [Int.mul_comm a, Int.mul_comm b, Int.mul_comm c]
def valH (l : List RInt) (d : Int) : Bool := redB l && (signI d != 0)
theorem zero3_eq (a b c : Int) : (((signI a == 0) && (signI b == 0)) && (signI c == 0)) = (sgnL [a, b, c] == 0) := by
  have h : ∀ z : Int, (signI z == 0) = decide (z = 0) := fun z => by
    by_cases hz : z = 0
    · subst hz; rfl
    · rw [decide_eq_false hz, beq_eq_false_iff_ne]; exact signI_ne hz
  rw [h, h, h]
  simp only [sgnL]
  by_cases ha : a = 0
  · by_cases hb : b = 0
    · by_cases hc : c = 0
      · simp [ha, hb, hc]
      · simp [ha, hb, hc, signI_ne hc]
    · simp [ha, hb, signI_ne hb]
  · simp [ha, signI_ne ha]
def sameI (x y : RInt) : Bool := (x.neg == y.neg) && (x.gs == y.gs)
theorem sameI_self (x : RInt) : sameI x x = true := by simp [sameI]
theorem sameI_iff {x y : RInt} : sameI x y = true ↔ x = y := by
  cases x; cases y; simp [sameI]
theorem take_same {a b : List Nat} {i : Nat} (h : i < a.length) (h2 : i < b.length) (hv : a.take i = b.take i) (e : ((a.getD i 0 : Nat) : Int) = ((b.getD i 0 : Nat) : Int)) : a.take (i + 1) = b.take (i + 1) := by
  rw [List.take_succ_eq_append_getElem h, List.take_succ_eq_append_getElem h2, hv]
  congr 2
  have := Int.ofNat.inj e
  simpa [List.getD, List.getElem?_eq_getElem h, List.getElem?_eq_getElem h2] using this
theorem same_head {x y : RInt} (h : (!(x.neg == y.neg) || (((x.gs.length : Nat) : Int) != ((y.gs.length : Nat) : Int))) = false) : x.neg = y.neg ∧ x.gs.length = y.gs.length := by
  simp at h
  exact ⟨h.1, by omega⟩
theorem same_no1 {x y : RInt} (h : (!(x.neg == y.neg) || (((x.gs.length : Nat) : Int) != ((y.gs.length : Nat) : Int))) = true) : sameI x y = false := by
  rw [← Bool.not_eq_true, sameI_iff]
  rintro rfl
  simp at h
theorem same_no2 {x y : RInt} {i : Nat} (hi : i < x.gs.length) (h : ((x.gs.getD i 0 : Nat) : Int) ≠ ((y.gs.getD i 0 : Nat) : Int)) : sameI x y = false := by
  rw [← Bool.not_eq_true, sameI_iff]
  rintro rfl
  exact h rfl
theorem same_yes {x y : RInt} (h : x.neg = y.neg) (hv : x.gs = y.gs) : sameI x y = true := by simp [sameI, h, hv]
theorem redL_length (zs : List Int) : (redL zs).length = zs.length := by simp [redL]
theorem redL_push {zs : List Int} {j : Nat} {o : List RInt} {d : Int} (hj : j < zs.length) (h : o = List.map ofZ ((redL zs).take j)) (hd : dvL zs = d) : o ++ [ofZ ((zs.getD j 0).fdiv d)] = List.map ofZ ((redL zs).take (j + 1)) := by
  rw [h, takeZ (by rw [redL_length]; exact hj), List.map_append]
  congr 1
  simp [redL, hd, List.getD, List.getElem?_eq_getElem hj]
theorem redL_iok {n : Nat} {l : List RInt} {zs : List Int} (hl : LOk n l zs) (j : Nat) : IOk ((List.map ofZ (redL zs)).getD j (RInt.mk false [])) ((redL zs).getD j 0) n := by
  rcases Nat.lt_or_ge j (redL zs).length with h | h
  · have e1 : (List.map ofZ (redL zs)).getD j (RInt.mk false []) = ofZ ((redL zs).getD j 0) := by
      simp [List.getD, List.getElem?_eq_getElem h]
    rw [e1]
    refine iok_of (redL_all hl.all _ ?_)
    rw [List.getD, List.getElem?_eq_getElem h]; exact List.getElem_mem h
  · rw [List.getD, List.getElem?_eq_none (by simpa using h), List.getD, List.getElem?_eq_none h]; exact iok_nilN n
theorem sgnL_pos {zs : List Int} (h : sgnL zs ≠ 0) : 0 < zs.length := by
  rcases zs with _ | ⟨z, zs⟩
  · exact absurd rfl h
  · simp
theorem valid_back {n : Nat} {l : List RInt} {zs : List Int} (hl : LOk n l zs) (hv : List.all l validI = true) : l = zs.map ofZ := by
  induction hl with
  | nil => rfl
  | cons h t ih =>
    rw [List.all_cons, Bool.and_eq_true] at hv
    rw [List.map_cons, ← ih hv.2, ← h.v, ofZ_toZ hv.1]
theorem plain_same {n : Nat} {l : List RInt} {zs : List Int} (hl : LOk n l zs) (hv : List.all l validI = true) (hd : dvL zs = 1) {i : Nat} (hi : i < l.length) : sameI (l.getD i (RInt.mk false [])) ((List.map ofZ (redL zs)).getD i (RInt.mk false [])) = true := by
  rw [redL_one hd, ← valid_back hl hv]; exact sameI_self _
theorem plain_step {a b : List RInt} {i : Nat} (h : i < a.length) (h2 : i < b.length) (hv : a.take i = b.take i) (e : sameI (a.getD i (RInt.mk false [])) (b.getD i (RInt.mk false [])) = true) : a.take (i + 1) = b.take (i + 1) := by
  rw [List.take_succ_eq_append_getElem h, List.take_succ_eq_append_getElem h2, hv]
  congr 2
  have := sameI_iff.1 e
  simpa [List.getD, List.getElem?_eq_getElem h, List.getElem?_eq_getElem h2] using this
theorem plain_end {n : Nat} {l : List RInt} {zs : List Int} (hl : LOk n l zs) (hnz : sgnL zs ≠ 0) (h : l.take l.length = (List.map ofZ (redL zs)).take l.length) : dvL zs = 1 := by
  rw [List.take_length, hl.len, ← redL_length zs, ← List.length_map (f := ofZ), List.take_length] at h
  have h2 := hl.map
  rw [h, List.map_map] at h2
  have h3 : redL zs = zs := by
    conv => rhs; rw [← h2]
    conv => lhs; rw [← List.map_id (redL zs)]
    apply List.map_congr_left
    intro z _
    exact (toZ_ofZ z).symm
  exact redL_same hnz h3
theorem redB_yes {n : Nat} {l : List RInt} {zs : List Int} (hl : LOk n l zs) (hv : List.all l validI = true) (hz : sgnL zs ≠ 0) (hd : dvL zs = 1) : redB l = true := by
  unfold redB; rw [hv, hl.map, decide_eq_true hz, decide_eq_true hd]; rfl
theorem redB_no {n : Nat} {l : List RInt} {zs : List Int} (hl : LOk n l zs) (hd : dvL zs ≠ 1) : redB l = false := by
  unfold redB; rw [hl.map, decide_eq_false hd, Bool.and_false, Bool.and_false]
def inR (x y : Int) : Bool := ((decide (-1048576 ≤ x) && decide (x ≤ 1048576)) && decide (-1048576 ≤ y)) && decide (y ≤ 1048576)
theorem inR_of {x y : Int} (hx : -1048576 ≤ x ∧ x ≤ 1048576) (hy : -1048576 ≤ y ∧ y ≤ 1048576) : inR x y = true := by
  unfold inR; rw [decide_eq_true hx.1, decide_eq_true hx.2, decide_eq_true hy.1, decide_eq_true hy.2]; rfl
theorem all_nil {l : List RInt} (h : ∀ x ∈ l, x = RInt.mk false []) (i : Nat) : l.getD i (RInt.mk false []) = RInt.mk false [] := by
  rw [List.getD]
  cases hj : l[i]? with
  | none => rfl
  | some q => exact h q (List.mem_of_getElem? hj)
def short4 (x : RInt) : Bool := decide (x.gs.length ≤ 4)
theorem short4_yes {x : RInt} (h : ¬ (4 : Int) < ((x.gs.length : Nat) : Int)) : short4 x = true := decide_eq_true (by omega)
theorem short4_no {x : RInt} (h : (4 : Int) < ((x.gs.length : Nat) : Int)) : short4 x = false := decide_eq_false (by omega)
theorem all_ofZ (zs : List Int) : List.all (List.map ofZ zs) validI = true := by
  rw [List.all_eq_true]
  intro x hx
  obtain ⟨z, _, rfl⟩ := List.mem_map.1 hx
  exact validI_ofZ z
theorem map_toZ_ofZ (zs : List Int) : (List.map ofZ zs).map toZ = zs := by
  rw [List.map_map]
  conv => rhs; rw [← List.map_id zs]
  apply List.map_congr_left
  intro z _
  exact toZ_ofZ z
theorem redB_ofZ (zs : List Int) : redB (List.map ofZ zs) = (decide (sgnL zs ≠ 0) && decide (dvL zs = 1)) := by
  unfold redB; rw [all_ofZ, map_toZ_ofZ, Bool.true_and]
theorem redB_closed (zs : List Int) (h : sgnL zs ≠ 0 ∧ dvL zs = 1) : redB (List.map ofZ zs) = true := by
  rw [redB_ofZ, decide_eq_true h.1, decide_eq_true h.2]; rfl
theorem valH_closed (zs : List Int) (d : Int) (h : (sgnL zs ≠ 0 ∧ dvL zs = 1) ∧ signI d ≠ 0) : valH (List.map ofZ zs) d = true := by
  unfold valH; rw [redB_closed zs h.1, bne_iff_ne.2 h.2]; rfl
end Go.Fid
