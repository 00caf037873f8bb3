/- Part 8 of a proof: rules, plain facts, and functions walked. -/
import Derived.Test.YtadkkhdnccljcaaGreatM4
import Derived.Test.YtadkkhdnccljcaaGreatM5
import Derived.Test.YtadkkhdnccljcaaGreatM7
set_option linter.unusedVariables false
set_option linter.unusedSimpArgs false
namespace Go.Fid
inductive LOk (n : Nat) : List RInt → List Int → Prop
  | nil : LOk n [] []
  | cons {x : RInt} {z : Int} {l : List RInt} {zs : List Int} (h : IOk x z n) (t : LOk n l zs) : LOk n (x :: l) (z :: zs)
theorem iok_zero : IOk ⟨false, []⟩ 0 1 := ⟨by decide, Nat.zero_le _⟩
theorem iok_nilN (n : Nat) : IOk ⟨false, []⟩ 0 n := ⟨by decide, Nat.zero_le _⟩
theorem LOk.len {n : Nat} {l : List RInt} {zs : List Int} (h : LOk n l zs) : l.length = zs.length := by
  induction h with
  | nil => rfl
  | cons h t ih => simp [ih]
theorem LOk.get {n : Nat} {l : List RInt} {zs : List Int} (h : LOk n l zs) (i : Nat) : IOk (l.getD i ⟨false, []⟩) (zs.getD i 0) n := by
  induction h generalizing i with
  | nil => exact iok_nilN n
  | cons h t ih =>
    rcases i with _ | i
    · exact h
    · exact ih i
theorem LOk.all {n : Nat} {l : List RInt} {zs : List Int} (h : LOk n l zs) : ∀ z ∈ zs, lenZ z ≤ n := by
  induction h with
  | nil => simp
  | cons h t ih =>
    intro z hz
    rcases List.mem_cons.1 hz with rfl | hz
    · exact h.ln
    · exact ih z hz
theorem LOk.up {m n : Nat} {l : List RInt} {zs : List Int} (h : LOk m l zs) (hm : m ≤ n) : LOk n l zs := by
  induction h with
  | nil => exact .nil
  | cons h t ih => exact .cons (iok_up h hm) ih
def gcdL (zs : List Int) : Nat := zs.foldl (fun d z => Int.gcd d z) 0
def sgnL : List Int → Int
  | [] => 0
  | z :: r => if z = 0 then sgnL r else signI z
def dvL (zs : List Int) : Int := if sgnL zs < 0 then -((gcdL zs : Nat) : Int) else ((gcdL zs : Nat) : Int)
def redL (zs : List Int) : List Int := zs.map fun z => z.fdiv (dvL zs)
theorem takeZ {l : List Int} {i : Nat} (h : i < l.length) : l.take (i + 1) = l.take i ++ [l.getD i 0] := by
  rw [List.take_succ_eq_append_getElem h]; simp [List.getD, List.getElem?_eq_getElem h]
theorem gcdL_step {zs : List Int} {i : Nat} (h : i < zs.length) : gcdL (zs.take (i + 1)) = Int.gcd ((gcdL (zs.take i) : Nat) : Int) (zs.getD i 0) := by
  unfold gcdL; rw [takeZ h, List.foldl_append]; rfl
theorem signI_ne {z : Int} (h : z ≠ 0) : signI z ≠ 0 := by
  unfold signI; split <;> (try split) <;> omega
theorem sgnL_app0 {a b : List Int} (h : sgnL a = 0) : sgnL (a ++ b) = sgnL b := by
  induction a with
  | nil => rfl
  | cons z a ih =>
    simp only [sgnL] at h
    by_cases hz : z = 0
    · rw [if_pos hz] at h; simp only [List.cons_append, sgnL, if_pos hz]; exact ih h
    · rw [if_neg hz] at h; exact absurd h (signI_ne hz)
theorem sgnL_app1 {a b : List Int} (h : sgnL a ≠ 0) : sgnL (a ++ b) = sgnL a := by
  induction a with
  | nil => exact absurd rfl h
  | cons z a ih =>
    simp only [sgnL] at h
    by_cases hz : z = 0
    · rw [if_pos hz] at h; simp only [List.cons_append, sgnL, if_pos hz]; exact ih h
    · simp only [List.cons_append, sgnL, if_neg hz]
theorem sgnL_one (z : Int) : sgnL [z] = signI z := by
  simp only [sgnL]; split
  · rename_i h; rw [h]; rfl
  · rfl
theorem sgnL_step0 {zs : List Int} {i : Nat} {s : Int} (h : i < zs.length) (hs : s = sgnL (zs.take i)) (h0 : s = 0) : signI (zs.getD i 0) = sgnL (zs.take (i + 1)) := by
  rw [takeZ h, sgnL_app0 (hs ▸ h0), sgnL_one]
theorem sgnL_step1 {zs : List Int} {i : Nat} {s : Int} (h : i < zs.length) (hs : s = sgnL (zs.take i)) (h0 : s ≠ 0) : s = sgnL (zs.take (i + 1)) := by
  rw [takeZ h, sgnL_app1 (hs ▸ h0)]; exact hs
theorem lenZ_gcd2 {a b : Int} {n : Nat} (ha : lenZ a ≤ n) (hb : lenZ b ≤ n) : lenZ ((Int.gcd a b : Nat) : Int) ≤ n := by
  by_cases h : b = 0
  · subst h; rw [Int.gcd_zero_right]
    exact Nat.le_trans (lenZ_of_le (by simp)) ha
  · exact lenZ_gcd h hb
theorem gcdL_len {n : Nat} (zs : List Int) (h : ∀ z ∈ zs, lenZ z ≤ n) : lenZ ((gcdL zs : Nat) : Int) ≤ n := by
  have key : ∀ (zs : List Int) (d : Nat), lenZ (d : Int) ≤ n → (∀ z ∈ zs, lenZ z ≤ n) → lenZ ((zs.foldl (fun d z => Int.gcd d z) d : Nat) : Int) ≤ n := by
    intro zs
    induction zs with
    | nil => intro d hd _; exact hd
    | cons z zs ih => intro d hd hz; exact ih _ (lenZ_gcd2 hd (hz z (by simp))) (fun y hy => hz y (by simp [hy]))
  exact key zs 0 (lenZ_le.2 (by rw [show ((0 : Nat) : Int).natAbs = 0 from rfl]; exact pw_pos n)) h
theorem gcdL_takelen {n : Nat} {zs : List Int} (h : ∀ z ∈ zs, lenZ z ≤ n) (i : Nat) : IOk (ofZ ((gcdL (zs.take i) : Nat) : Int)) ((gcdL (zs.take i) : Nat) : Int) n :=
  iok_of (gcdL_len _ fun z hz => h z (List.mem_of_mem_take hz))
theorem dvL_len {n : Nat} {zs : List Int} (h : ∀ z ∈ zs, lenZ z ≤ n) : lenZ (dvL zs) ≤ n := by
  unfold dvL; split
  · rw [lenZ_neg]; exact gcdL_len zs h
  · exact gcdL_len zs h
theorem gcdL_dvd (zs : List Int) : ∀ z ∈ zs, ((gcdL zs : Nat) : Int) ∣ z := by
  have key : ∀ (zs : List Int) (d : Nat), ((zs.foldl (fun d z => Int.gcd d z) d : Nat) : Int) ∣ (d : Int) ∧ ∀ z ∈ zs, ((zs.foldl (fun d z => Int.gcd d z) d : Nat) : Int) ∣ z := by
    intro zs
    induction zs with
    | nil => intro d; exact ⟨Int.dvd_refl _, by simp⟩
    | cons z zs ih =>
      intro d
      obtain ⟨h1, h2⟩ := ih (Int.gcd d z)
      refine ⟨Int.dvd_trans h1 (Int.gcd_dvd_left ..), fun y hy => ?_⟩
      rcases List.mem_cons.1 hy with rfl | hy
      · exact Int.dvd_trans h1 (Int.gcd_dvd_right ..)
      · exact h2 y hy
  exact (key zs 0).2
theorem sgnL_ne {zs : List Int} (h : sgnL zs ≠ 0) : ∃ z ∈ zs, z ≠ 0 := by
  induction zs with
  | nil => exact absurd rfl h
  | cons z zs ih =>
    by_cases hz : z = 0
    · simp only [sgnL, if_pos hz] at h
      obtain ⟨y, hy, h2⟩ := ih h
      exact ⟨y, by simp [hy], h2⟩
    · exact ⟨z, by simp, hz⟩
theorem sgnL_of {zs : List Int} {z : Int} (hz : z ∈ zs) (h : z ≠ 0) : sgnL zs ≠ 0 := by
  induction zs with
  | nil => cases hz
  | cons y zs ih =>
    by_cases hy : y = 0
    · simp only [sgnL, if_pos hy]
      rcases List.mem_cons.1 hz with e | hz
      · subst e; exact absurd hy h
      · exact ih hz
    · simp only [sgnL, if_neg hy]; exact signI_ne hy
theorem gcdL_ne {zs : List Int} (h : sgnL zs ≠ 0) : gcdL zs ≠ 0 := fun e => by
  obtain ⟨z, hz, h0⟩ := sgnL_ne h
  have := gcdL_dvd zs z hz
  rw [e] at this
  exact h0 (Int.zero_dvd.1 this)
theorem dvL_ne {zs : List Int} (h : sgnL zs ≠ 0) : dvL zs ≠ 0 := by
  have := gcdL_ne h
  unfold dvL; split <;> omega
theorem dvL_dvd {zs : List Int} : ∀ z ∈ zs, dvL zs ∣ z := fun z hz => by
  unfold dvL; split
  · exact Int.neg_dvd.2 (gcdL_dvd zs z hz)
  · exact gcdL_dvd zs z hz
theorem fdiv_mulZ {d z : Int} (hd : d ≠ 0) (h : d ∣ z) : z.fdiv d * d = z := by
  obtain ⟨c, rfl⟩ := h
  rw [Int.mul_fdiv_cancel_left _ hd]; exact Int.mul_comm _ _
theorem red_dv {zs : List Int} (h : sgnL zs ≠ 0) {z : Int} (hz : z ∈ zs) : z.fdiv (dvL zs) * dvL zs = z := fdiv_mulZ (dvL_ne h) (dvL_dvd z hz)
theorem gcdL_scale (k : Int) (zs : List Int) : gcdL (zs.map (k * ·)) = k.natAbs * gcdL zs := by
  have key : ∀ (zs : List Int) (d : Nat), (zs.map (k * ·)).foldl (fun d z => Int.gcd d z) (k.natAbs * d) = k.natAbs * zs.foldl (fun d z => Int.gcd d z) d := by
    intro zs
    induction zs with
    | nil => intro d; rfl
    | cons z zs ih =>
      intro d
      rw [List.map_cons, List.foldl_cons, List.foldl_cons, ← ih (Int.gcd d z)]
      congr 1
      simp only [Int.gcd, Int.natAbs_mul, Int.natAbs_natCast]
      exact Nat.gcd_mul_left ..
  exact key zs 0
theorem signI_mul {k z : Int} (hk : k ≠ 0) : (signI (k * z) < 0 ↔ (k < 0 ∧ 0 < z) ∨ (0 < k ∧ z < 0)) := by
  have h1 : ∀ y : Int, signI y < 0 ↔ y < 0 := fun y => by unfold signI; split <;> (try split) <;> omega
  rw [h1]
  constructor
  · intro h
    rcases Int.lt_or_gt_of_ne hk with hk' | hk'
    · exact .inl ⟨hk', by rcases Int.lt_trichotomy z 0 with h' | h' | h'; · have := Int.mul_pos_of_neg_of_neg hk' h'; omega
                          · subst h'; simp at h
                          · exact h'⟩
    · exact .inr ⟨hk', by rcases Int.lt_trichotomy z 0 with h' | h' | h'; · exact h'
                          · subst h'; simp at h
                          · have := Int.mul_pos hk' h'; omega⟩
  · rintro (⟨a, b⟩ | ⟨a, b⟩)
    · exact Int.mul_neg_of_neg_of_pos a b
    · exact Int.mul_neg_of_pos_of_neg a b
theorem sgnL_scale {k : Int} (hk : k ≠ 0) (zs : List Int) : (sgnL (zs.map (k * ·)) = 0 ↔ sgnL zs = 0) ∧ (sgnL zs ≠ 0 → (sgnL (zs.map (k * ·)) < 0 ↔ (k < 0 ∧ ¬ sgnL zs < 0) ∨ (0 < k ∧ sgnL zs < 0))) := by
  induction zs with
  | nil => exact ⟨Iff.rfl, fun h => absurd rfl h⟩
  | cons z zs ih =>
    by_cases hz : z = 0
    · subst hz
      simpa [sgnL] using ih
    · have hkz : k * z ≠ 0 := Int.mul_ne_zero hk hz
      simp only [List.map_cons, sgnL, if_neg hz, if_neg hkz]
      refine ⟨⟨fun h => absurd h (signI_ne hkz), fun h => absurd h (signI_ne hz)⟩, fun _ => ?_⟩
      rw [signI_mul hk]
      have h1 : signI z < 0 ↔ z < 0 := by unfold signI; split <;> (try split) <;> omega
      rw [h1]; omega
theorem dvL_scale {k : Int} (hk : k ≠ 0) {zs : List Int} (h : sgnL zs ≠ 0) : dvL (zs.map (k * ·)) = k * dvL zs := by
  have h2 := (sgnL_scale hk zs).2 h
  unfold dvL
  rw [gcdL_scale, Int.natCast_mul]
  rcases Int.lt_or_gt_of_ne hk with hk' | hk'
  · have e : ((k.natAbs : Nat) : Int) = -k := by omega
    rw [e]
    by_cases hs : sgnL zs < 0
    · rw [if_neg (by rw [h2]; omega), if_pos hs, Int.neg_mul, Int.mul_neg]
    · rw [if_pos (by rw [h2]; omega), if_neg hs, Int.neg_mul, Int.neg_neg]
  · have e : ((k.natAbs : Nat) : Int) = k := by omega
    rw [e]
    by_cases hs : sgnL zs < 0
    · rw [if_pos (by rw [h2]; omega), if_pos hs, Int.mul_neg]
    · rw [if_neg (by rw [h2]; omega), if_neg hs]
theorem redL_back {zs : List Int} (h : sgnL zs ≠ 0) : (redL zs).map (dvL zs * ·) = zs := by
  unfold redL
  rw [List.map_map]
  conv => rhs; rw [← List.map_id zs]
  apply List.map_congr_left
  intro z hz
  show dvL zs * z.fdiv (dvL zs) = z
  rw [Int.mul_comm]; exact red_dv h hz
theorem redL_ne {zs : List Int} (h : sgnL zs ≠ 0) : sgnL (redL zs) ≠ 0 := fun e => by
  have := ((sgnL_scale (dvL_ne h) (redL zs)).1).2 e
  rw [redL_back h] at this
  exact h this
theorem dvL_red {zs : List Int} (h : sgnL zs ≠ 0) : dvL (redL zs) = 1 := by
  have h1 := dvL_scale (dvL_ne h) (redL_ne h)
  rw [redL_back h] at h1
  have h2 : dvL zs * 1 = dvL zs * dvL (redL zs) := by rw [Int.mul_one]; exact h1
  exact (Int.eq_of_mul_eq_mul_left (dvL_ne h) h2).symm
theorem redL_one {zs : List Int} (h : dvL zs = 1) : redL zs = zs := by
  unfold redL
  rw [h]
  conv => rhs; rw [← List.map_id zs]
  apply List.map_congr_left
  intro z _
  exact Int.fdiv_one z
theorem redL_same {zs : List Int} (h : sgnL zs ≠ 0) (e : redL zs = zs) : dvL zs = 1 := by rw [← e]; exact dvL_red h
def redB (l : List RInt) : Bool := l.all validI && (decide (sgnL (l.map toZ) ≠ 0) && decide (dvL (l.map toZ) = 1))
theorem LOk.map {n : Nat} {l : List RInt} {zs : List Int} (h : LOk n l zs) : l.map toZ = zs := by
  induction h with
  | nil => rfl
  | cons h t ih => rw [List.map_cons, ih, h.v]
theorem all_getD {l : List RInt} {i : Nat} (h : List.all l validI = true) (hi : i < l.length) : validI (l.getD i (RInt.mk false [])) = true := by
  rw [List.getD, List.getElem?_eq_getElem hi]
  exact List.all_eq_true.1 h _ (List.getElem_mem hi)
theorem dv_neg {zs : List Int} {s : Int} {g : Nat} (hs : s = sgnL zs) (hg : g = gcdL zs) (h : s < 0) : dvL zs = -((g : Nat) : Int) := by
  unfold dvL; rw [← hs, if_pos h, ← hg]
theorem dv_pos {zs : List Int} {s : Int} {g : Nat} (hs : s = sgnL zs) (hg : g = gcdL zs) (h : ¬ s < 0) : dvL zs = ((g : Nat) : Int) := by
  unfold dvL; rw [← hs, if_neg h, ← hg]
theorem cmpI_eq0 (a b : Int) : (cmpI a b == 0) = decide (a = b) := by
  unfold cmpI
  by_cases h : a < b
  · rw [if_pos h, decide_eq_false (by omega)]; rfl
  · rw [if_neg h]
    by_cases h2 : b < a
    · rw [if_pos h2, decide_eq_false (by omega)]; rfl
    · rw [if_neg h2, decide_eq_true (by omega)]; rfl
theorem redB_eq {n : Nat} {l : List RInt} {zs : List Int} (hl : LOk n l zs) (hv : List.all l validI = true) : redB l = ((sgnL zs != 0) && (cmpI (dvL zs) 1 == 0)) := by
  unfold redB
  rw [hv, hl.map, cmpI_eq0, Bool.true_and]
  congr 1
  simp [bne, BEq.beq]
def sumL (zs : List Int) : Int := zs.foldl (· + ·) 0
theorem sumL_step {zs : List Int} {i : Nat} (h : i < zs.length) : sumL (zs.take (i + 1)) = sumL (zs.take i) + zs.getD i 0 := by
  unfold sumL; rw [takeZ h, List.foldl_append]; rfl
theorem sumL3 (a b c : Int) : sumL [a, b, c] = a + b + c := by simp [sumL]
theorem sumL_len {zs : List Int} {i n : Nat} (h : ∀ z ∈ zs, lenZ z ≤ n) (hi : i ≤ 1000) : lenZ (sumL (zs.take i)) ≤ n + 1000 := by
  have key : ∀ i, lenZ (sumL (zs.take i)) ≤ n + i := by
    intro i
    induction i with
    | zero => exact lenZ_le.2 (by simpa [sumL] using pw_pos _)
    | succ i ih =>
      rcases Nat.lt_or_ge i zs.length with hlt | hge
      · rw [sumL_step hlt]
        refine lenZ_add ih (h (zs.getD i 0) ?_) (by omega)
        rw [List.getD, List.getElem?_eq_getElem hlt]; exact List.getElem_mem hlt
      · rw [List.take_of_length_le (by omega), ← List.take_of_length_le hge]; omega
  exact Nat.le_trans (key i) (by omega)
theorem redL_all {n : Nat} {zs : List Int} (h : ∀ z ∈ zs, lenZ z ≤ n) : ∀ z ∈ redL zs, lenZ z ≤ n := fun z hz => by
  unfold redL at hz
  obtain ⟨y, hy, rfl⟩ := List.mem_map.1 hz
  exact Nat.le_trans (lenZ_fdiv_dvd (dvL_dvd y hy)) (h y hy)
theorem red_iok {n : Nat} {l : List RInt} {zs cs : List Int} (hl : LOk n l zs) (hc : redL zs = cs) : ∀ c ∈ cs, IOk (ofZ c) c n := fun c hm => iok_of (redL_all hl.all c (by rw [hc]; exact hm))
def det3 (a b c d e f g h i : Int) : Int := a * (e * i - f * h) + b * (f * g - d * i) + c * (d * h - e * g)
theorem det3_cr (a b c d e f g h i : Int) : det3 a b c d e f g h i = (b * f - c * e) * g + (c * d - a * f) * h + (a * e - b * d) * i := by unfold det3; grind
theorem iok_eqz {x y : Int} {n : Nat} (h : x = y) (k : IOk (ofZ y) y n) : IOk (ofZ x) x n := h ▸ k
theorem iok_det3 {x0 x1 x2 x3 x4 x5 x6 x7 x8 : RInt} {a b c d e f g h i : Int} {n k : Nat} (h0 : IOk x0 a n) (h1 : IOk x1 b n) (h2 : IOk x2 c n) (h3 : IOk x3 d n) (h4 : IOk x4 e n) (h5 : IOk x5 f n) (h6 : IOk x6 g n) (h7 : IOk x7 h n) (h8 : IOk x8 i n) (hk : 3 * n + 3 ≤ k) : IOk (ofZ (det3 a b c d e f g h i)) (det3 a b c d e f g h i) k := by
  have m2 : ∀ {x y : RInt} {u v : Int}, IOk x u n → IOk y v n → IOk (ofZ (u * v)) (u * v) (2 * n) := fun p q => iok_mul p q (by omega)
  have s2 : ∀ {x y z w : RInt} {u v s t : Int}, IOk x u n → IOk y v n → IOk z s n → IOk w t n → IOk (ofZ (u * v - s * t)) (u * v - s * t) (2 * n + 1) := fun p q r s => iok_sub (m2 p q) (m2 r s) (by omega)
  have m3 : ∀ {x y z w v : RInt} {u v' s t r : Int}, IOk x u n → IOk y v' n → IOk z s n → IOk w t n → IOk v r n → IOk (ofZ ((u * v' - s * t) * r)) ((u * v' - s * t) * r) (3 * n + 1) := fun p q r s t => iok_mul (s2 p q r s) t (by omega)
  refine iok_eqz (det3_cr a b c d e f g h i) (iok_up (iok_add (k := 3 * n + 3) (iok_add (k := 3 * n + 2) (m3 h1 h5 h2 h4 h6) (m3 h2 h3 h0 h5 h7) (by omega)) (m3 h0 h4 h1 h3 h8) (by omega)) hk)
theorem dot_comm (a x b y c z : Int) : a * x + b * y + c * z = x * a + y * b + z * c := by rw [Int.mul_comm a, Int.mul_comm b, Int.mul_comm c]
def valH (l : List RInt) (d : Int) : Bool := redB l && (signI d != 0)
def sameI (x y : RInt) : Bool := (x.neg == y.neg) && (x.gs == y.gs)
theorem sameI_self (x : RInt) : sameI x x = true := by simp [sameI]
theorem sameI_iff {x y : RInt} : sameI x y = true ↔ x = y := by
  cases x; cases y; simp [sameI]
theorem take_same {a b : List Nat} {i : Nat} (h : i < a.length) (h2 : i < b.length) (hv : a.take i = b.take i) (e : ((a.getD i 0 : Nat) : Int) = ((b.getD i 0 : Nat) : Int)) : a.take (i + 1) = b.take (i + 1) := by
  rw [List.take_succ_eq_append_getElem h, List.take_succ_eq_append_getElem h2, hv]
  congr 2
  have := Int.ofNat.inj e
  simpa [List.getD, List.getElem?_eq_getElem h, List.getElem?_eq_getElem h2] using this
theorem same_head {x y : RInt} (h : (!(x.neg == y.neg) || (((x.gs.length : Nat) : Int) != ((y.gs.length : Nat) : Int))) = false) : x.neg = y.neg ∧ x.gs.length = y.gs.length := by
  simp at h
  exact ⟨h.1, by omega⟩
theorem same_no1 {x y : RInt} (h : (!(x.neg == y.neg) || (((x.gs.length : Nat) : Int) != ((y.gs.length : Nat) : Int))) = true) : sameI x y = false := by
  rw [← Bool.not_eq_true, sameI_iff]
  rintro rfl
  simp at h
theorem same_no2 {x y : RInt} {i : Nat} (hi : i < x.gs.length) (h : ((x.gs.getD i 0 : Nat) : Int) ≠ ((y.gs.getD i 0 : Nat) : Int)) : sameI x y = false := by
  rw [← Bool.not_eq_true, sameI_iff]
  rintro rfl
  exact h rfl
theorem same_yes {x y : RInt} (h : x.neg = y.neg) (hv : x.gs = y.gs) : sameI x y = true := by simp [sameI, h, hv]
theorem redL_length (zs : List Int) : (redL zs).length = zs.length := by simp [redL]
theorem redL_push {zs : List Int} {j : Nat} {o : List RInt} {d : Int} (hj : j < zs.length) (h : o = List.map ofZ ((redL zs).take j)) (hd : dvL zs = d) : o ++ [ofZ ((zs.getD j 0).fdiv d)] = List.map ofZ ((redL zs).take (j + 1)) := by
  rw [h, takeZ (by rw [redL_length]; exact hj), List.map_append]
  congr 1
  simp [redL, hd, List.getD, List.getElem?_eq_getElem hj]
theorem redL_iok {n : Nat} {l : List RInt} {zs : List Int} (hl : LOk n l zs) (j : Nat) : IOk ((List.map ofZ (redL zs)).getD j (RInt.mk false [])) ((redL zs).getD j 0) n := by
  rcases Nat.lt_or_ge j (redL zs).length with h | h
  · have e1 : (List.map ofZ (redL zs)).getD j (RInt.mk false []) = ofZ ((redL zs).getD j 0) := by
      simp [List.getD, List.getElem?_eq_getElem h]
    rw [e1]
    refine iok_of (redL_all hl.all _ ?_)
    rw [List.getD, List.getElem?_eq_getElem h]; exact List.getElem_mem h
  · rw [List.getD, List.getElem?_eq_none (by simpa using h), List.getD, List.getElem?_eq_none h]; exact iok_nilN n
theorem sgnL_pos {zs : List Int} (h : sgnL zs ≠ 0) : 0 < zs.length := by
  rcases zs with _ | ⟨z, zs⟩
  · exact absurd rfl h
  · simp
theorem valid_back {n : Nat} {l : List RInt} {zs : List Int} (hl : LOk n l zs) (hv : List.all l validI = true) : l = zs.map ofZ := by
  induction hl with
  | nil => rfl
  | cons h t ih =>
    rw [List.all_cons, Bool.and_eq_true] at hv
    rw [List.map_cons, ← ih hv.2, ← h.v, ofZ_toZ hv.1]
theorem plain_same {n : Nat} {l : List RInt} {zs : List Int} (hl : LOk n l zs) (hv : List.all l validI = true) (hd : dvL zs = 1) {i : Nat} (hi : i < l.length) : sameI (l.getD i (RInt.mk false [])) ((List.map ofZ (redL zs)).getD i (RInt.mk false [])) = true := by
  rw [redL_one hd, ← valid_back hl hv]; exact sameI_self _
theorem plain_step {a b : List RInt} {i : Nat} (h : i < a.length) (h2 : i < b.length) (hv : a.take i = b.take i) (e : sameI (a.getD i (RInt.mk false [])) (b.getD i (RInt.mk false [])) = true) : a.take (i + 1) = b.take (i + 1) := by
  rw [List.take_succ_eq_append_getElem h, List.take_succ_eq_append_getElem h2, hv]
  congr 2
  have := sameI_iff.1 e
  simpa [List.getD, List.getElem?_eq_getElem h, List.getElem?_eq_getElem h2] using this
theorem plain_end {n : Nat} {l : List RInt} {zs : List Int} (hl : LOk n l zs) (hnz : sgnL zs ≠ 0) (h : l.take l.length = (List.map ofZ (redL zs)).take l.length) : dvL zs = 1 := by
  rw [List.take_length, hl.len, ← redL_length zs, ← List.length_map (f := ofZ), List.take_length] at h
  have h2 := hl.map
  rw [h, List.map_map] at h2
  have h3 : redL zs = zs := by
    conv => rhs; rw [← h2]
    conv => lhs; rw [← List.map_id (redL zs)]
    apply List.map_congr_left
    intro z _
    exact (toZ_ofZ z).symm
  exact redL_same hnz h3
theorem redB_yes {n : Nat} {l : List RInt} {zs : List Int} (hl : LOk n l zs) (hv : List.all l validI = true) (hz : sgnL zs ≠ 0) (hd : dvL zs = 1) : redB l = true := by
  unfold redB; rw [hv, hl.map, decide_eq_true hz, decide_eq_true hd]; rfl
theorem redB_no {n : Nat} {l : List RInt} {zs : List Int} (hl : LOk n l zs) (hd : dvL zs ≠ 1) : redB l = false := by
  unfold redB; rw [hl.map, decide_eq_false hd, Bool.and_false, Bool.and_false]
def inR (x y : Int) : Bool := ((decide (-1048576 ≤ x) && decide (x ≤ 1048576)) && decide (-1048576 ≤ y)) && decide (y ≤ 1048576)
theorem inR_of {x y : Int} (hx : -1048576 ≤ x ∧ x ≤ 1048576) (hy : -1048576 ≤ y ∧ y ≤ 1048576) : inR x y = true := by
  unfold inR; rw [decide_eq_true hx.1, decide_eq_true hx.2, decide_eq_true hy.1, decide_eq_true hy.2]; rfl
theorem all_nil {l : List RInt} (h : ∀ x ∈ l, x = RInt.mk false []) (i : Nat) : l.getD i (RInt.mk false []) = RInt.mk false [] := by
  rw [List.getD]
  cases hj : l[i]? with
  | none => rfl
  | some q => exact h q (List.mem_of_getElem? hj)
def short4 (x : RInt) : Bool := decide (x.gs.length ≤ 4)
theorem short4_yes {x : RInt} (h : ¬ (4 : Int) < ((x.gs.length : Nat) : Int)) : short4 x = true := decide_eq_true (by omega)
theorem short4_no {x : RInt} (h : (4 : Int) < ((x.gs.length : Nat) : Int)) : short4 x = false := decide_eq_false (by omega)
theorem all_ofZ (zs : List Int) : List.all (List.map ofZ zs) validI = true := by
  rw [List.all_eq_true]
  intro x hx
  obtain ⟨z, _, rfl⟩ := List.mem_map.1 hx
  exact validI_ofZ z
theorem map_toZ_ofZ (zs : List Int) : (List.map ofZ zs).map toZ = zs := by
  rw [List.map_map]
  conv => rhs; rw [← List.map_id zs]
  apply List.map_congr_left
  intro z _
  exact toZ_ofZ z
theorem redB_ofZ (zs : List Int) : redB (List.map ofZ zs) = (decide (sgnL zs ≠ 0) && decide (dvL zs = 1)) := by
  unfold redB; rw [all_ofZ, map_toZ_ofZ, Bool.true_and]
theorem redB_closed (zs : List Int) (h : sgnL zs ≠ 0 ∧ dvL zs = 1) : redB (List.map ofZ zs) = true := by
  rw [redB_ofZ, decide_eq_true h.1, decide_eq_true h.2]; rfl
theorem valH_closed (zs : List Int) (d : Int) (h : (sgnL zs ≠ 0 ∧ dvL zs = 1) ∧ signI d ≠ 0) : valH (List.map ofZ zs) d = true := by
  unfold valH; rw [redB_closed zs h.1, bne_iff_ne.2 h.2]; rfl
theorem allnil_of {l : List RInt} (h : (l.all fun x => !x.neg && x.gs.isEmpty) = true) : ∀ x ∈ l, x = RInt.mk false [] := fun x hx => by
  have := List.all_eq_true.1 h x hx
  cases x; simp at this; simp [this.1, this.2]
end Go.Fid
namespace Go.Proofs.YtadkkhdnccljcaaGreat
open Go.Fid
theorem avo_encI (h138 : 138 ≠ 1000000) (x : RInt) : Avoids 1000000 (encI x) := .agg (avo_cons (.val _) (avo_cons (avo_vals h138 _) avo_nil))
theorem avo_sl_30 (h : 30 ≠ 1000000) (h138 : 138 ≠ 1000000) (l : List RInt) : Avoids 1000000 (.sl 30 2 (List.map encI l)) := avo_slF h (fun x => avo_encI h138 x) l
end Go.Proofs.YtadkkhdnccljcaaGreat
namespace Go.Proofs.YtadkkhdnccljcaaGreat
open Go.Fid
set_option maxRecDepth 4000
set_option linter.unusedVariables false
set_option linter.unusedSimpArgs false
theorem cb45 : callB Tryz.prog 45 = true := by kernel_rfl
theorem cb96 : callB Tryz.prog 96 = true := by kernel_rfl
theorem cb112 : callB Tryz.prog 112 = true := by kernel_rfl
theorem cb113 : callB Tryz.prog 113 = true := by kernel_rfl
theorem cb123 : callB Tryz.prog 123 = true := by kernel_rfl
theorem cb129 : callB Tryz.prog 129 = true := by kernel_rfl
theorem el40 : elemB Tryz.prog 40 = some (30, 2) := by kernel_rfl
theorem d_divisorV (tau : Nat) (l : List RInt) (zs : List Int) (hl : LOk 1000000 l zs) (hb : l.length ≤ 1000000) (hv : List.all l validI = false) : Takes Tryz.prog 123 [(.sl tau 2 (List.map encI l))] (.tup [(encI (RInt.mk false [])), (.val (.bool (false)))]) := by
  have hlen := hl.len
  refine fn_intro Tryz.func123 rfl cb123 rfl ?_
  show PWp _ _ _ _ ⟨[(0, (vl tau 2 encI l))], []⟩
  refine pwp_seq <| kx [(2, (.ref 0 0))] [(0, some (bx (encI (RInt.mk false []))))] (zN (oAl 0 ze30 zo30) <| zM <| zZ) ?_
  refine pwp_seq <| kx [(4, (.ref 1 0))] [(1, some (bx (encI (ofZ 0))))] (zE (oCl (t_of 0 (by decide) (by decide))) <| zN (oAl 1 ze30 zo30) <| zT (oSt sh30) <| zZ) ?_
  refine pwp_seq <| kx [(5, (vin 0))] [] (zM <| zZ) ?_
  refine pwp_seq <| pwp_seq <| kx [(9, (vl tau 2 encI l)), (10, (vin l.length)), (11, (vin 0))] [] (zM <| zE (oLm el40) <| zM <| zZ) ?_
  refine pwp_block <| pwp_loop (α := Nat × Nat × Int) (fun (i, g, s) => ⟨[(2, (.ref 0 0)), (4, (.ref 1 0)), (5, (vi s)), (9, (vl tau 2 encI l)), (10, (vin l.length)), (11, (vin i))], [(0, some (bx (encI (RInt.mk false [])))), (1, some (bx (encI (ofZ ((g : Nat) : Int)))))]⟩) (fun (i, g, s) => i ≤ l.length ∧ g = gcdL (zs.take i) ∧ s = sgnL (zs.take i) ∧ (l.take i).all validI = true) (fun (i, g, s) => l.length - i) (0, 0, 0) wk ⟨Nat.zero_le _, rfl, rfl, by simp⟩ ?_
  rintro ⟨i, g, s⟩ ⟨hi, hgv, hsv, hal⟩
  have hg : IOk (ofZ ((g : Nat) : Int)) ((g : Nat) : Int) 1000000 := by rw [hgv]; exact gcdL_takelen hl.all i
  refine pwp_seq <| kx [(12, (vb (decide (((i : Nat) : Int) < ((l.length : Nat) : Int)))))] [] (zE oLt <| zZ) ?_
  refine pwp_seq <| pwp_cond rfl (fun h1 => ?_) (fun h1 => ?_)
  · replace h1 := of_decide_eq_true h1
    refine pwp_skip <| pwp_seq <| pwp_block <| pwp_seq <| kx [(7, (.ref 2 0))] [(2, some (bx (encI (l.getD i (RInt.mk false [])))))] (zE (oXl el40 i (RInt.mk false [])) <| zE (oCa sh30) <| zN (oAl 2 ze30 zo30) <| zT (oSt sh30) <| zZ) ?_
    refine pwp_seq <| pwp_seq <| kx [(17, (vb (!(validI (l.getD i (RInt.mk false []))))))] [] (zR (oLa sh30) <| zE (oCl (t_valid (l.getD i (RInt.mk false [])) (Nat.le_trans (hl.get i).l (by decide)))) <| zE oNt <| zZ) ?_
    refine pwp_cond (b := !(validI (l.getD i (RInt.mk false [])))) rfl (fun h2 => ?_) (fun h2 => ?_)
    · refine pwp_seq <| kx [(3, (vb false))] [(0, some (bx (encI (RInt.mk false []))))] (zE (oBd pl30 ze30 zo30) <| zT (oSt sh30) <| zM <| zZ) ?_
      refine pwp_ret ⟨_, (res_a (cs := (bx (encI (RInt.mk false [])))) (d := (encI (RInt.mk false []))) rfl rfl sh30 rfl rfl (.tmp (d := (.val (.bool (false)))) rfl .nil)), ?_⟩
      rfl
    · have hvi : validI (l.getD i ⟨false, []⟩) = true := by simpa using h2
      refine pwp_skip <| pwp_seq <| kx [] [(1, some (bx (encI (ofZ ((Int.gcd ((g : Nat) : Int) (zs.getD i 0) : Nat) : Int)))))] (zR (oLa sh30) <| zR (oLa sh30) <| zE (oCl (s_gcd hg (hl.get i) (by decide) (by decide))) <| zT (oSt sh30) <| zZ) ?_
      refine pwp_seq <| kx [(23, (vb (s == 0)))] [] (zM <| zE oEq <| zZ) ?_
      refine pwp_cond (b := (s == 0)) rfl (fun h3 => ?_) (fun h3 => ?_)
      · replace h3 := eq_of_beq h3
        refine kx [(5, (vi (signI (zs.getD i 0))))] [] (zR (oLa sh30) <| zE (oCl (s_sign (hl.get i) (by decide))) <| zM <| zZ) ?_
        refine kx [(11, (vin (i + 1)))] [] (zE (oAd (i + 1)) <| zM <| zZ) ?_
        exact ⟨(i + 1, Int.gcd ((g : Nat) : Int) (zs.getD i 0), signI (zs.getD i 0)), wk, ⟨by omega, by rw [hgv]; exact (gcdL_step (by omega)).symm, sgnL_step0 (by omega) hsv h3, all_take (d := ⟨false, []⟩) (by omega) hal hvi⟩, (by first | omega | (dsimp only; omega))⟩
      · replace h3 := ne_of_beq_false h3
        refine pwp_skip <| kx [(11, (vin (i + 1)))] [] (zE (oAd (i + 1)) <| zM <| zZ) ?_
        exact ⟨(i + 1, Int.gcd ((g : Nat) : Int) (zs.getD i 0), s), wk, ⟨by omega, by rw [hgv]; exact (gcdL_step (by omega)).symm, sgnL_step1 (by omega) hsv h3, all_take (d := ⟨false, []⟩) (by omega) hal hvi⟩, (by first | omega | (dsimp only; omega))⟩
  · replace h1 := of_decide_eq_false h1
    exfalso; have hie : i = l.length := (by omega); rw [hie, List.take_length, hv] at hal; cases hal
theorem d_divisor (tau : Nat) (l : List RInt) (zs : List Int) (hl : LOk 1000000 l zs) (hb : l.length ≤ 1000000) (hv : List.all l validI = true) : Takes Tryz.prog 123 [(.sl tau 2 (List.map encI l))] (.tup [(encI (ofZ (dvL zs))), (.val (.bool ((sgnL zs != 0))))]) := by
  have hlen := hl.len
  refine fn_intro Tryz.func123 rfl cb123 rfl ?_
  show PWp _ _ _ _ ⟨[(0, (vl tau 2 encI l))], []⟩
  refine pwp_seq <| kx [(2, (.ref 0 0))] [(0, some (bx (encI (RInt.mk false []))))] (zN (oAl 0 ze30 zo30) <| zM <| zZ) ?_
  refine pwp_seq <| kx [(4, (.ref 1 0))] [(1, some (bx (encI (ofZ 0))))] (zE (oCl (t_of 0 (by decide) (by decide))) <| zN (oAl 1 ze30 zo30) <| zT (oSt sh30) <| zZ) ?_
  refine pwp_seq <| kx [(5, (vin 0))] [] (zM <| zZ) ?_
  refine pwp_seq <| pwp_seq <| kx [(9, (vl tau 2 encI l)), (10, (vin l.length)), (11, (vin 0))] [] (zM <| zE (oLm el40) <| zM <| zZ) ?_
  refine pwp_block <| pwp_loop (α := Nat × Nat × Int) (fun (i, g, s) => ⟨[(2, (.ref 0 0)), (4, (.ref 1 0)), (5, (vi s)), (9, (vl tau 2 encI l)), (10, (vin l.length)), (11, (vin i))], [(0, some (bx (encI (RInt.mk false [])))), (1, some (bx (encI (ofZ ((g : Nat) : Int)))))]⟩) (fun (i, g, s) => i ≤ l.length ∧ g = gcdL (zs.take i) ∧ s = sgnL (zs.take i)) (fun (i, g, s) => l.length - i) (0, 0, 0) wk ⟨Nat.zero_le _, rfl, rfl⟩ ?_
  rintro ⟨i, g, s⟩ ⟨hi, hgv, hsv⟩
  have hg : IOk (ofZ ((g : Nat) : Int)) ((g : Nat) : Int) 1000000 := by rw [hgv]; exact gcdL_takelen hl.all i
  refine pwp_seq <| kx [(12, (vb (decide (((i : Nat) : Int) < ((l.length : Nat) : Int)))))] [] (zE oLt <| zZ) ?_
  refine pwp_seq <| pwp_cond rfl (fun h1 => ?_) (fun h1 => ?_)
  · replace h1 := of_decide_eq_true h1
    refine pwp_skip <| pwp_seq <| pwp_block <| pwp_seq <| kx [(7, (.ref 2 0))] [(2, some (bx (encI (l.getD i (RInt.mk false [])))))] (zE (oXl el40 i (RInt.mk false [])) <| zE (oCa sh30) <| zN (oAl 2 ze30 zo30) <| zT (oSt sh30) <| zZ) ?_
    refine pwp_seq <| pwp_seq <| kx [(17, (vb false))] [] (zR (oLa sh30) <| zE (oBk true (oCl (t_valid (l.getD i (RInt.mk false [])) (Nat.le_trans (hl.get i).l (by decide)))) (by exact (all_getD hv (by omega)))) <| zE oNt <| zZ) ?_
    refine pwp_cond (b := false) (by kernel_rfl) (fun h => by cases h) (fun _ => ?_)
    refine pwp_skip <| pwp_seq <| kx [] [(1, some (bx (encI (ofZ ((Int.gcd ((g : Nat) : Int) (zs.getD i 0) : Nat) : Int)))))] (zR (oLa sh30) <| zR (oLa sh30) <| zE (oCl (s_gcd hg (hl.get i) (by decide) (by decide))) <| zT (oSt sh30) <| zZ) ?_
    refine pwp_seq <| kx [(23, (vb (s == 0)))] [] (zM <| zE oEq <| zZ) ?_
    refine pwp_cond (b := (s == 0)) rfl (fun h2 => ?_) (fun h2 => ?_)
    · replace h2 := eq_of_beq h2
      refine kx [(5, (vi (signI (zs.getD i 0))))] [] (zR (oLa sh30) <| zE (oCl (s_sign (hl.get i) (by decide))) <| zM <| zZ) ?_
      refine kx [(11, (vin (i + 1)))] [] (zE (oAd (i + 1)) <| zM <| zZ) ?_
      exact ⟨(i + 1, Int.gcd ((g : Nat) : Int) (zs.getD i 0), signI (zs.getD i 0)), wk, ⟨by omega, by rw [hgv]; exact (gcdL_step (by omega)).symm, sgnL_step0 (by omega) hsv h2⟩, (by first | omega | (dsimp only; omega))⟩
    · replace h2 := ne_of_beq_false h2
      refine pwp_skip <| kx [(11, (vin (i + 1)))] [] (zE (oAd (i + 1)) <| zM <| zZ) ?_
      exact ⟨(i + 1, Int.gcd ((g : Nat) : Int) (zs.getD i 0), s), wk, ⟨by omega, by rw [hgv]; exact (gcdL_step (by omega)).symm, sgnL_step1 (by omega) hsv h2⟩, (by first | omega | (dsimp only; omega))⟩
  · replace h1 := of_decide_eq_false h1
    have hie : i = l.length := by omega
    rw [hie, hlen, List.take_length] at hgv hsv
    refine pwp_exit <| pwp_seq <| pwp_seq <| kx [(28, (vb (decide (s < 0))))] [] (zM <| zE oLt <| zZ) ?_
    refine pwp_cond (b := decide (s < 0)) rfl (fun h3 => ?_) (fun h3 => ?_)
    · replace h3 := of_decide_eq_true h3
      refine kx [] [(1, some (bx (encI (ofZ (-((g : Nat) : Int))))))] (zR (oLa sh30) <| zE (oCl (s_neg hg (by decide))) <| zT (oSt sh30) <| zZ) ?_
      refine pwp_seq <| kx [(3, (vb (s != 0)))] [(0, some (bx (encI (ofZ (-((g : Nat) : Int))))))] (zR (oLa sh30) <| zM <| zE oNe <| zT (oSt sh30) <| zM <| zZ) ?_
      refine pwp_ret ⟨_, (res_a (cs := (bx (encI (ofZ (-((g : Nat) : Int)))))) (d := (encI (ofZ (-((g : Nat) : Int))))) rfl rfl sh30 rfl rfl (.tmp (d := (.val (.bool ((s != 0))))) rfl .nil)), ?_⟩
      rw [dv_neg hsv hgv h3, ← hsv]; rfl
    · replace h3 := of_decide_eq_false h3
      refine pwp_skip <| pwp_seq <| kx [(3, (vb (s != 0)))] [(0, some (bx (encI (ofZ ((g : Nat) : Int)))))] (zR (oLa sh30) <| zM <| zE oNe <| zT (oSt sh30) <| zM <| zZ) ?_
      refine pwp_ret ⟨_, (res_a (cs := (bx (encI (ofZ ((g : Nat) : Int))))) (d := (encI (ofZ ((g : Nat) : Int)))) rfl rfl sh30 rfl rfl (.tmp (d := (.val (.bool ((s != 0))))) rfl .nil)), ?_⟩
      rw [dv_pos hsv hgv h3, ← hsv]; rfl
theorem d_isredT (tau : Nat) (l : List RInt) (zs : List Int) (hl : LOk 1000000 l zs) (hb : l.length ≤ 1000000) (hv : List.all l validI = true) : Takes Tryz.prog 96 [(.sl tau 2 (List.map encI l))] (.val (.bool (((sgnL zs != 0) && (cmpI (dvL zs) 1 == 0))))) := by
  refine fn_intro Tryz.func96 rfl cb96 rfl ?_
  show PWp _ _ _ _ ⟨[(0, (vl tau 2 encI l))], []⟩
  refine pwp_seq <| kx [] [] (zM <| zZ) ?_
  refine pwp_seq <| kx [(3, (.ref 0 0)), (4, (vb (sgnL zs != 0)))] [(0, some (bx (encI (ofZ (dvL zs)))))] (zM <| zE (oCl (d_divisor tau l zs hl hb hv)) <| zM <| zE oEx <| zE oEx <| zN (oAl 0 ze30 zo30) <| zT (oSt sh30) <| zM <| zZ) ?_
  refine pwp_seq <| kd [(2, (vb ((sgnL zs != 0) && ((cmpI (dvL zs) 1) == 0))))] [] mo ?_ ?_
  · refine wM <| wE (oV (vb (sgnL zs != 0)) (mv_ok (by kernel_rfl))) <| ?_
    rcases hb1 : (sgnL zs != 0) with _ | _
    · replace hb1 := bne_eq_false_iff_eq.1 hb1
      exact wK <| wK <| wK <| wK <| wE oPf <| wM <| wZ
    · replace hb1 := bne_iff_ne.1 hb1
      exact wR (oLa sh30) <| wE (oCl (t_of 1 (by decide) (by decide))) <| wE (oCl (s_compare (iok_of (dvL_len (LOk.all (n := 1000000) hl))) (iok_small (z := 1) (by decide)) (by decide) (by decide))) <| wE oEq <| wE oPa <| wM <| wZ
  refine pwp_ret ⟨_, (.tmp (d := (.val (.bool (((sgnL zs != 0) && ((cmpI (dvL zs) 1) == 0)))))) rfl .nil), ?_⟩
  rfl
theorem d_isredF (tau : Nat) (l : List RInt) (zs : List Int) (hl : LOk 1000000 l zs) (hb : l.length ≤ 1000000) (hv : List.all l validI = false) : Takes Tryz.prog 96 [(.sl tau 2 (List.map encI l))] (.val (.bool (false))) := by
  refine fn_intro Tryz.func96 rfl cb96 rfl ?_
  show PWp _ _ _ _ ⟨[(0, (vl tau 2 encI l))], []⟩
  refine pwp_seq <| kx [] [] (zM <| zZ) ?_
  refine pwp_seq <| kx [(3, (.ref 0 0)), (4, (vb false))] [(0, some (bx (encI (RInt.mk false []))))] (zM <| zE (oCl (d_divisorV tau l zs hl hb hv)) <| zM <| zE oEx <| zE oEx <| zN (oAl 0 ze30 zo30) <| zT (oSt sh30) <| zM <| zZ) ?_
  refine pwp_seq <| kd [(2, (vb false))] [] mo (wM <| wM <| wK <| wK <| wK <| wK <| wE oPf <| wM <| wZ) ?_
  refine pwp_ret ⟨_, (.tmp (d := (.val (.bool (false)))) rfl .nil), ?_⟩
  rfl
theorem d_isred (tau : Nat) (l : List RInt) (zs : List Int) (hl : LOk 1000000 l zs) (hb : l.length ≤ 1000000) : Takes Tryz.prog 96 [.sl tau 2 (List.map encI l)] (.val (.bool (redB l))) := by
  rcases hv : List.all l validI with _ | _
  · have h := d_isredF tau l zs hl hb hv
    rw [show redB l = false from by unfold redB; rw [hv]; rfl]; exact h
  · have h := d_isredT tau l zs hl hb hv
    rw [show redB l = ((sgnL zs != 0) && (cmpI (dvL zs) 1 == 0)) from redB_eq hl hv]; exact h
theorem d_sum (tau : Nat) (l : List RInt) (zs : List Int) (hl : LOk 4000000000 l zs) (hb : l.length ≤ 1000) : Takes Tryz.prog 129 [(.sl tau 2 (List.map encI l))] (encI (ofZ (sumL zs))) := by
  have hlen := hl.len
  refine fn_intro Tryz.func129 rfl cb129 rfl ?_
  show PWp _ _ _ _ ⟨[(0, (vl tau 2 encI l))], []⟩
  refine pwp_seq <| kx [(2, (.ref 0 0))] [(0, some (bx (encI (RInt.mk false []))))] (zN (oAl 0 ze30 zo30) <| zZ) ?_
  refine pwp_seq <| kx [(3, (.ref 1 0))] [(1, some (bx (encI (ofZ 0))))] (zE (oCl (t_of 0 (by decide) (by decide))) <| zN (oAl 1 ze30 zo30) <| zT (oSt sh30) <| zZ) ?_
  refine pwp_seq <| pwp_seq <| kx [(7, (vl tau 2 encI l)), (8, (vin l.length)), (9, (vin 0))] [] (zM <| zE (oLm el40) <| zM <| zZ) ?_
  refine pwp_block <| pwp_loop (α := Nat × Int) (fun (i, s) => ⟨[(2, (.ref 0 0)), (3, (.ref 1 0)), (7, (vl tau 2 encI l)), (8, (vin l.length)), (9, (vin i))], [(0, some (bx (encI (RInt.mk false [])))), (1, some (bx (encI (ofZ s))))]⟩) (fun (i, s) => i ≤ l.length ∧ s = sumL (zs.take i)) (fun (i, s) => l.length - i) (0, 0) wk ⟨Nat.zero_le _, rfl⟩ ?_
  rintro ⟨i, s⟩ ⟨hi, hsv⟩
  have hg : IOk (ofZ s) s 5000000000 := by rw [hsv]; exact iok_up (iok_of (sumL_len hl.all (by omega))) (by decide)
  refine pwp_seq <| kx [(10, (vb (decide (((i : Nat) : Int) < ((l.length : Nat) : Int)))))] [] (zE oLt <| zZ) ?_
  refine pwp_seq <| pwp_cond rfl (fun h1 => ?_) (fun h1 => ?_)
  · replace h1 := of_decide_eq_true h1
    refine pwp_skip <| pwp_seq <| pwp_block <| pwp_seq <| kx [(5, (.ref 2 0))] [(2, some (bx (encI (l.getD i (RInt.mk false [])))))] (zE (oXl el40 i (RInt.mk false [])) <| zE (oCa sh30) <| zN (oAl 2 ze30 zo30) <| zT (oSt sh30) <| zZ) ?_
    refine kx [] [(1, some (bx (encI (ofZ (s + (zs.getD i 0))))))] (zR (oLa sh30) <| zR (oLa sh30) <| zE (oCl (s_add hg (hl.get i) (by decide) (by decide))) <| zT (oSt sh30) <| zZ) ?_
    refine kx [(9, (vin (i + 1)))] [] (zE (oAd (i + 1)) <| zM <| zZ) ?_
    exact ⟨(i + 1, (s + (zs.getD i 0))), wk, ⟨by omega, by rw [hsv]; exact (sumL_step (by omega)).symm⟩, (by first | omega | (dsimp only; omega))⟩
  · replace h1 := of_decide_eq_false h1
    have hie : i = l.length := by omega
    rw [hie, hlen, List.take_length] at hsv
    refine pwp_exit <| pwp_seq <| kx [] [(0, some (bx (encI (ofZ s))))] (zR (oLa sh30) <| zT (oSt sh30) <| zZ) ?_
    refine pwp_ret ⟨_, (res_a (cs := (bx (encI (ofZ s)))) (d := (encI (ofZ s))) rfl rfl sh30 rfl rfl .nil), ?_⟩
    rw [hsv]; rfl
theorem l_plus (x : RInt) (a : Int) (hx : IOk x a 4000000000) (y : RInt) (b : Int) (hy : IOk y b 4000000000) : Takes Tryz.prog 113 [(encI x), (encI y)] (encI (ofZ (a + b))) := by
  refine fn_intro Tryz.func113 rfl cb113 rfl ?_
  show PWp _ _ _ _ ⟨[(0, (.d (encI x))), (1, (.d (encI y)))], []⟩
  refine pwp_seq <| kx [(2, (.ref 0 0)), (3, (.ref 1 0)), (4, (.ref 2 0))] [(0, some (bx (encI x))), (1, some (bx (encI y))), (2, some (bx (encI (RInt.mk false []))))] (zN (oBx 0) <| zN (oBx 1) <| zN (oAl 2 ze30 zo30) <| zZ) ?_
  refine pwp_seq <| kx [] [(2, some (bx (encI (ofZ (a + b)))))] (zR (oLa sh30) <| zR (oLa sh30) <| zE (oCl (rs_add hx hy (by decide) (by decide))) <| zT (oSt sh30) <| zZ) ?_
  refine pwp_ret ⟨_, (res_a (cs := (bx (encI (ofZ (a + b))))) (d := (encI (ofZ (a + b)))) rfl rfl sh30 rfl rfl .nil), ?_⟩
  rfl
theorem l_minus (x : RInt) (a : Int) (hx : IOk x a 4000000000) (y : RInt) (b : Int) (hy : IOk y b 4000000000) : Takes Tryz.prog 112 [(encI x), (encI y)] (encI (ofZ (a - b))) := by
  refine fn_intro Tryz.func112 rfl cb112 rfl ?_
  show PWp _ _ _ _ ⟨[(0, (.d (encI x))), (1, (.d (encI y)))], []⟩
  refine pwp_seq <| kx [(2, (.ref 0 0)), (3, (.ref 1 0)), (4, (.ref 2 0))] [(0, some (bx (encI x))), (1, some (bx (encI y))), (2, some (bx (encI (RInt.mk false []))))] (zN (oBx 0) <| zN (oBx 1) <| zN (oAl 2 ze30 zo30) <| zZ) ?_
  refine pwp_seq <| kx [] [(2, some (bx (encI (ofZ (a - b)))))] (zR (oLa sh30) <| zR (oLa sh30) <| zE (oCl (rs_sub hx hy (by decide) (by decide))) <| zT (oSt sh30) <| zZ) ?_
  refine pwp_ret ⟨_, (res_a (cs := (bx (encI (ofZ (a - b))))) (d := (encI (ofZ (a - b)))) rfl rfl sh30 rfl rfl .nil), ?_⟩
  rfl
theorem l_times (x : RInt) (a : Int) (hx : IOk x a 4000000000) (y : RInt) (b : Int) (hy : IOk y b 4000000000) : Takes Tryz.prog 45 [(encI x), (encI y)] (encI (ofZ (a * b))) := by
  refine fn_intro Tryz.func45 rfl cb45 rfl ?_
  show PWp _ _ _ _ ⟨[(0, (.d (encI x))), (1, (.d (encI y)))], []⟩
  refine pwp_seq <| kx [(2, (.ref 0 0)), (3, (.ref 1 0)), (4, (.ref 2 0))] [(0, some (bx (encI x))), (1, some (bx (encI y))), (2, some (bx (encI (RInt.mk false []))))] (zN (oBx 0) <| zN (oBx 1) <| zN (oAl 2 ze30 zo30) <| zZ) ?_
  refine pwp_seq <| kx [] [(2, some (bx (encI (ofZ (a * b)))))] (zR (oLa sh30) <| zR (oLa sh30) <| zE (oCl (rs_mul hx hy (by decide) (by decide))) <| zT (oSt sh30) <| zZ) ?_
  refine pwp_ret ⟨_, (res_a (cs := (bx (encI (ofZ (a * b))))) (d := (encI (ofZ (a * b)))) rfl rfl sh30 rfl rfl .nil), ?_⟩
  rfl
end Go.Proofs.YtadkkhdnccljcaaGreat
namespace Go.Proofs.YtadkkhdnccljcaaGreat
open Go.Fid
set_option maxRecDepth 4000
set_option linter.unusedVariables false
set_option linter.unusedSimpArgs false
theorem ar32 : arrB Tryz.prog 32 = some (9, 30, 2) := by kernel_rfl
theorem ar44 : arrB Tryz.prog 44 = some (3, 30, 2) := by kernel_rfl
theorem cb55 : callB Tryz.prog 55 = true := by kernel_rfl
theorem cb56 : callB Tryz.prog 56 = true := by kernel_rfl
theorem cb75 : callB Tryz.prog 75 = true := by kernel_rfl
theorem cb84 : callB Tryz.prog 84 = true := by kernel_rfl
theorem cb88 : callB Tryz.prog 88 = true := by kernel_rfl
theorem cb97 : callB Tryz.prog 97 = true := by kernel_rfl
theorem cb124 : callB Tryz.prog 124 = true := by kernel_rfl
theorem sh44 : shapeB Tryz.prog 44 = some (true, 6) := by kernel_rfl
theorem ze44 : zeroB Tryz.prog 44 = some [.bool false, .slice none 0 0, .bool false, .slice none 0 0, .bool false, .slice none 0 0] := by kernel_rfl
theorem zo44 : ZOk [.bool false, .slice none 0 0, .bool false, .slice none 0 0, .bool false, .slice none 0 0] [.val (.bool false), .sl 138 1 [], .val (.bool false), .sl 138 1 [], .val (.bool false), .sl 138 1 []] := by simp [ZOk, Value.oneCell']
theorem d_cross (p : A3 RInt) (p0 p1 p2 : Int) (hp0 : IOk p.a0 p0 1000000000) (hp1 : IOk p.a1 p1 1000000000) (hp2 : IOk p.a2 p2 1000000000) (q : A3 RInt) (q0 q1 q2 : Int) (hq0 : IOk q.a0 q0 1000000000) (hq1 : IOk q.a1 q1 1000000000) (hq2 : IOk q.a2 q2 1000000000) : Takes Tryz.prog 84 [(encA43 p), (encA43 q)] (encA43 (A3.mk (ofZ ((p1 * q2) - (p2 * q1))) (ofZ ((p2 * q0) - (p0 * q2))) (ofZ ((p0 * q1) - (p1 * q0))))) := by
  refine fn_intro Tryz.func84 rfl cb84 rfl ?_
  show PWp _ _ _ _ ⟨[(0, (.d (encA43 p))), (1, (.d (encA43 q)))], []⟩
  refine pwp_seq <| kx [(2, (.ref 0 0)), (3, (.ref 1 0)), (4, (.ref 2 0))] [(0, some (bx (encA43 p))), (1, some (bx (encA43 q))), (2, some (bx (encA43 (A3.mk (RInt.mk false []) (RInt.mk false []) (RInt.mk false [])))))] (zN (oBx 0) <| zN (oBx 1) <| zN (oAl 2 ze44 zo44) <| zZ) ?_
  refine pwp_seq <| kx [(5, (.ref 3 0))] [(3, some (bx (encA43 (A3.mk (RInt.mk false []) (RInt.mk false []) (RInt.mk false [])))))] (zN (oAl 3 ze44 zo44) <| zZ) ?_
  refine pwp_seq <| pwp_seq <| kx [(9, (vin 0))] [] (zM <| zZ) ?_
  refine pwp_block <| pwp_rounds 20 ?_
  refine pwp_round <| pwp_seq <| kx [(10, (vb true))] [] (zE (oBk true oLt) <| zZ) ?_
  refine pwp_seq <| pwp_cond (b := true) (by kernel_rfl) (fun _ => ?_) (fun h => by cases h)
  refine pwp_skip <| pwp_seq <| pwp_block <| pwp_seq <| kx [(6, (vin 0))] [] (zM <| zM <| zZ) ?_
  refine pwp_seq <| kx [(7, (vin 1)), (8, (vin 2))] [] (zM <| zE (oAd 1 (hr := by decide)) <| zE (oRe 1 (hr := by decide)) <| zM <| zE (oAd 2 (hr := by decide)) <| zE (oRe 2 (hr := by decide)) <| zM <| zM <| zZ) ?_
  refine kd [] [(3, some (bx (encA43 (A3.mk (ofZ ((p1 * q2) - (p2 * q1))) (RInt.mk false []) (RInt.mk false [])))))] mo (wM <| wM <| wE (oXr ar44 1) <| wR (oLa sh30) <| wM <| wE (oXr ar44 2) <| wR (oLa sh30) <| wE (oCl (s_mul hp1 hq2 (by decide) (by decide))) <| wM <| wE (oXr ar44 2) <| wR (oLa sh30) <| wM <| wE (oXr ar44 1) <| wR (oLa sh30) <| wE (oCl (s_mul hp2 hq1 (by decide) (by decide))) <| wE (oCl (s_sub (iok_mul (k := 2000000000) hp1 hq2 (by decide)) (iok_mul (k := 2000000000) hp2 hq1 (by decide)) (by decide) (by decide))) <| wE (oXr ar44 0) <| wT (oSt sh30) <| wZ) ?_
  refine kx [(9, (vin 1))] [] (zE (oAd 1 (hr := by decide)) <| zM <| zZ) ?_
  refine pwp_again (SimImp.refl _) ?_
  refine pwp_seq <| kx [(10, (vb true))] [] (zE (oBk true oLt) <| zZ) ?_
  refine pwp_seq <| pwp_cond (b := true) (by kernel_rfl) (fun _ => ?_) (fun h => by cases h)
  refine pwp_skip <| pwp_seq <| pwp_block <| pwp_seq <| kx [(6, (vin 1))] [] (zM <| zM <| zZ) ?_
  refine pwp_seq <| kx [(7, (vin 2)), (8, (vin 0))] [] (zM <| zE (oAd 2 (hr := by decide)) <| zE (oRe 2 (hr := by decide)) <| zM <| zE (oAd 3 (hr := by decide)) <| zE (oRe 0 (hr := by decide)) <| zM <| zM <| zZ) ?_
  refine kd [] [(3, some (bx (encA43 (A3.mk (ofZ ((p1 * q2) - (p2 * q1))) (ofZ ((p2 * q0) - (p0 * q2))) (RInt.mk false [])))))] mo (wM <| wM <| wE (oXr ar44 2) <| wR (oLa sh30) <| wM <| wE (oXr ar44 0) <| wR (oLa sh30) <| wE (oCl (s_mul hp2 hq0 (by decide) (by decide))) <| wM <| wE (oXr ar44 0) <| wR (oLa sh30) <| wM <| wE (oXr ar44 2) <| wR (oLa sh30) <| wE (oCl (s_mul hp0 hq2 (by decide) (by decide))) <| wE (oCl (s_sub (iok_mul (k := 2000000000) hp2 hq0 (by decide)) (iok_mul (k := 2000000000) hp0 hq2 (by decide)) (by decide) (by decide))) <| wE (oXr ar44 1) <| wT (oSt sh30) <| wZ) ?_
  refine kx [(9, (vin 2))] [] (zE (oAd 2 (hr := by decide)) <| zM <| zZ) ?_
  refine pwp_again (SimImp.refl _) ?_
  refine pwp_seq <| kx [(10, (vb true))] [] (zE (oBk true oLt) <| zZ) ?_
  refine pwp_seq <| pwp_cond (b := true) (by kernel_rfl) (fun _ => ?_) (fun h => by cases h)
  refine pwp_skip <| pwp_seq <| pwp_block <| pwp_seq <| pwp_sim (wk (l := [(2, (.ref 0 0)), (3, (.ref 1 0)), (4, (.ref 2 0)), (5, (.ref 3 0)), (9, (vin 2)), (10, (vb true))]) (b := [(0, some (bx (encA43 p))), (1, some (bx (encA43 q))), (2, some (bx (encA43 (A3.mk (RInt.mk false []) (RInt.mk false []) (RInt.mk false []))))), (3, some (bx (encA43 (A3.mk (ofZ ((p1 * q2) - (p2 * q1))) (ofZ ((p2 * q0) - (p0 * q2))) (RInt.mk false [])))))])) ?_
  refine kx [(6, (vin 2))] [] (zM <| zM <| zZ) ?_
  refine pwp_seq <| kx [(7, (vin 0)), (8, (vin 1))] [] (zM <| zE (oAd 3 (hr := by decide)) <| zE (oRe 0 (hr := by decide)) <| zM <| zE (oAd 4 (hr := by decide)) <| zE (oRe 1 (hr := by decide)) <| zM <| zM <| zZ) ?_
  refine kd [] [(3, some (bx (encA43 (A3.mk (ofZ ((p1 * q2) - (p2 * q1))) (ofZ ((p2 * q0) - (p0 * q2))) (ofZ ((p0 * q1) - (p1 * q0)))))))] mo (wM <| wM <| wE (oXr ar44 0) <| wR (oLa sh30) <| wM <| wE (oXr ar44 1) <| wR (oLa sh30) <| wE (oCl (s_mul hp0 hq1 (by decide) (by decide))) <| wM <| wE (oXr ar44 1) <| wR (oLa sh30) <| wM <| wE (oXr ar44 0) <| wR (oLa sh30) <| wE (oCl (s_mul hp1 hq0 (by decide) (by decide))) <| wE (oCl (s_sub (iok_mul (k := 2000000000) hp0 hq1 (by decide)) (iok_mul (k := 2000000000) hp1 hq0 (by decide)) (by decide) (by decide))) <| wE (oXr ar44 2) <| wT (oSt sh30) <| wZ) ?_
  refine kx [(9, (vin 3))] [] (zE (oAd 3 (hr := by decide)) <| zM <| zZ) ?_
  refine pwp_again (SimImp.refl _) ?_
  refine pwp_seq <| kx [(10, (vb false))] [] (zE (oBk false oLt) <| zZ) ?_
  refine pwp_seq <| pwp_cond (b := false) (by kernel_rfl) (fun h => by cases h) (fun _ => ?_)
  refine pwp_exit <| pwp_seq <| kx [] [(2, some (bx (encA43 (A3.mk (ofZ ((p1 * q2) - (p2 * q1))) (ofZ ((p2 * q0) - (p0 * q2))) (ofZ ((p0 * q1) - (p1 * q0)))))))] (zR (oLa sh44) <| zT (oSt sh44) <| zZ) ?_
  refine pwp_ret ⟨_, (res_a (cs := (bx (encA43 (A3.mk (ofZ ((p1 * q2) - (p2 * q1))) (ofZ ((p2 * q0) - (p0 * q2))) (ofZ ((p0 * q1) - (p1 * q0))))))) (d := (encA43 (A3.mk (ofZ ((p1 * q2) - (p2 * q1))) (ofZ ((p2 * q0) - (p0 * q2))) (ofZ ((p0 * q1) - (p1 * q0)))))) rfl rfl sh44 rfl rfl .nil), ?_⟩
  rfl
theorem l_cross (p : A3 RInt) (p0 p1 p2 : Int) (hp0 : IOk p.a0 p0 1000000000) (hp1 : IOk p.a1 p1 1000000000) (hp2 : IOk p.a2 p2 1000000000) (q : A3 RInt) (q0 q1 q2 : Int) (hq0 : IOk q.a0 q0 1000000000) (hq1 : IOk q.a1 q1 1000000000) (hq2 : IOk q.a2 q2 1000000000) : Takes Tryz.prog 55 [(encA43 p), (encA43 q)] (encA43 (A3.mk (ofZ ((p1 * q2) - (p2 * q1))) (ofZ ((p2 * q0) - (p0 * q2))) (ofZ ((p0 * q1) - (p1 * q0))))) := by
  refine fn_intro Tryz.func55 rfl cb55 rfl ?_
  show PWp _ _ _ _ ⟨[(0, (.d (encA43 p))), (1, (.d (encA43 q)))], []⟩
  refine pwp_seq <| kx [(2, (.ref 0 0)), (3, (.ref 1 0)), (4, (.ref 2 0))] [(0, some (bx (encA43 p))), (1, some (bx (encA43 q))), (2, some (bx (encA43 (A3.mk (RInt.mk false []) (RInt.mk false []) (RInt.mk false [])))))] (zN (oBx 0) <| zN (oBx 1) <| zN (oAl 2 ze44 zo44) <| zZ) ?_
  refine pwp_seq <| kd [] [(2, some (bx (encA43 (A3.mk (ofZ ((p1 * q2) - (p2 * q1))) (ofZ ((p2 * q0) - (p0 * q2))) (ofZ ((p0 * q1) - (p1 * q0)))))))] mo (wE (oXr ar44 1) <| wR (oLa sh30) <| wE (oXr ar44 2) <| wR (oLa sh30) <| wE (oCl (l_times p.a1 p1 (iu hp1) q.a2 q2 (iu hq2))) <| wE (oXr ar44 2) <| wR (oLa sh30) <| wE (oXr ar44 1) <| wR (oLa sh30) <| wE (oCl (l_times p.a2 p2 (iu hp2) q.a1 q1 (iu hq1))) <| wE (oCl (l_minus (ofZ (p1 * q2)) (p1 * q2) (iok_up (iok_mul (k := 2000000000) hp1 hq2 (by decide)) (by decide)) (ofZ (p2 * q1)) (p2 * q1) (iok_up (iok_mul (k := 2000000000) hp2 hq1 (by decide)) (by decide)))) <| wE (oXr ar44 2) <| wR (oLa sh30) <| wE (oXr ar44 0) <| wR (oLa sh30) <| wE (oCl (l_times p.a2 p2 (iu hp2) q.a0 q0 (iu hq0))) <| wE (oXr ar44 0) <| wR (oLa sh30) <| wE (oXr ar44 2) <| wR (oLa sh30) <| wE (oCl (l_times p.a0 p0 (iu hp0) q.a2 q2 (iu hq2))) <| wE (oCl (l_minus (ofZ (p2 * q0)) (p2 * q0) (iok_up (iok_mul (k := 2000000000) hp2 hq0 (by decide)) (by decide)) (ofZ (p0 * q2)) (p0 * q2) (iok_up (iok_mul (k := 2000000000) hp0 hq2 (by decide)) (by decide)))) <| wE (oXr ar44 0) <| wR (oLa sh30) <| wE (oXr ar44 1) <| wR (oLa sh30) <| wE (oCl (l_times p.a0 p0 (iu hp0) q.a1 q1 (iu hq1))) <| wE (oXr ar44 1) <| wR (oLa sh30) <| wE (oXr ar44 0) <| wR (oLa sh30) <| wE (oCl (l_times p.a1 p1 (iu hp1) q.a0 q0 (iu hq0))) <| wE (oCl (l_minus (ofZ (p0 * q1)) (p0 * q1) (iok_up (iok_mul (k := 2000000000) hp0 hq1 (by decide)) (by decide)) (ofZ (p1 * q0)) (p1 * q0) (iok_up (iok_mul (k := 2000000000) hp1 hq0 (by decide)) (by decide)))) <| wE (oBf ar44 ze44 zo44) <| wT (oSt sh44) <| wZ) ?_
  refine pwp_ret ⟨_, (res_a (cs := (bx (encA43 (A3.mk (ofZ ((p1 * q2) - (p2 * q1))) (ofZ ((p2 * q0) - (p0 * q2))) (ofZ ((p0 * q1) - (p1 * q0))))))) (d := (encA43 (A3.mk (ofZ ((p1 * q2) - (p2 * q1))) (ofZ ((p2 * q0) - (p0 * q2))) (ofZ ((p0 * q1) - (p1 * q0)))))) rfl rfl sh44 rfl rfl .nil), ?_⟩
  rfl
theorem d_dot (p : A3 RInt) (p0 p1 p2 : Int) (hp0 : IOk p.a0 p0 1000000000) (hp1 : IOk p.a1 p1 1000000000) (hp2 : IOk p.a2 p2 1000000000) (q : A3 RInt) (q0 q1 q2 : Int) (hq0 : IOk q.a0 q0 1000000000) (hq1 : IOk q.a1 q1 1000000000) (hq2 : IOk q.a2 q2 1000000000) : Takes Tryz.prog 88 [(encA43 p), (encA43 q)] (encI (ofZ (((p0 * q0) + (p1 * q1)) + (p2 * q2)))) := by
  refine fn_intro Tryz.func88 rfl cb88 rfl ?_
  show PWp _ _ _ _ ⟨[(0, (.d (encA43 p))), (1, (.d (encA43 q)))], []⟩
  refine pwp_seq <| kx [(2, (.ref 0 0)), (3, (.ref 1 0)), (4, (.ref 2 0))] [(0, some (bx (encA43 p))), (1, some (bx (encA43 q))), (2, some (bx (encI (RInt.mk false []))))] (zN (oBx 0) <| zN (oBx 1) <| zN (oAl 2 ze30 zo30) <| zZ) ?_
  refine pwp_seq <| kd [] [(2, some (bx (encI (ofZ (((p0 * q0) + (p1 * q1)) + (p2 * q2))))))] mo (wE (oXr ar44 0) <| wR (oLa sh30) <| wE (oXr ar44 0) <| wR (oLa sh30) <| wE (oCl (s_mul hp0 hq0 (by decide) (by decide))) <| wE (oXr ar44 1) <| wR (oLa sh30) <| wE (oXr ar44 1) <| wR (oLa sh30) <| wE (oCl (s_mul hp1 hq1 (by decide) (by decide))) <| wE (oXr ar44 2) <| wR (oLa sh30) <| wE (oXr ar44 2) <| wR (oLa sh30) <| wE (oCl (s_mul hp2 hq2 (by decide) (by decide))) <| wE (oBs el40 ze30 zo30) <| wE (oCl (by have h := d_sum 30 [(ofZ (p0 * q0)), (ofZ (p1 * q1)), (ofZ (p2 * q2))] [(p0 * q0), (p1 * q1), (p2 * q2)] (.cons (iok_up (iok_mul (k := 2000000000) hp0 hq0 (by decide)) (by decide)) (.cons (iok_up (iok_mul (k := 2000000000) hp1 hq1 (by decide)) (by decide)) (.cons (iok_up (iok_mul (k := 2000000000) hp2 hq2 (by decide)) (by decide)) .nil))) (by simp); rw [sumL3] at h; exact h)) <| wT (oSt sh30) <| wZ) ?_
  refine pwp_ret ⟨_, (res_a (cs := (bx (encI (ofZ (((p0 * q0) + (p1 * q1)) + (p2 * q2)))))) (d := (encI (ofZ (((p0 * q0) + (p1 * q1)) + (p2 * q2))))) rfl rfl sh30 rfl rfl .nil), ?_⟩
  rfl
theorem d_row0 (h : A9 RInt) (h0 h1 h2 h3 h4 h5 h6 h7 h8 : Int) (hh0 : IOk h.a0 h0 1000000000) (hh1 : IOk h.a1 h1 1000000000) (hh2 : IOk h.a2 h2 1000000000) (hh3 : IOk h.a3 h3 1000000000) (hh4 : IOk h.a4 h4 1000000000) (hh5 : IOk h.a5 h5 1000000000) (hh6 : IOk h.a6 h6 1000000000) (hh7 : IOk h.a7 h7 1000000000) (hh8 : IOk h.a8 h8 1000000000) : Takes Tryz.prog 97 [(encA31 h), (.val (.int .i64 (((0 : Nat) : Int))))] (encA43 (A3.mk h.a0 h.a1 h.a2)) := by
  refine fn_intro Tryz.func97 rfl cb97 rfl ?_
  show PWp _ _ _ _ ⟨[(0, (.d (encA31 h))), (1, (vin 0))], []⟩
  refine pwp_seq <| kx [(2, (.ref 0 0)), (4, (.ref 1 0))] [(0, some (bx (encA31 h))), (1, some (bx (encA43 (A3.mk (RInt.mk false []) (RInt.mk false []) (RInt.mk false [])))))] (zN (oBx 0) <| zN (oAl 1 ze44 zo44) <| zZ) ?_
  refine pwp_seq <| kd [] [(1, some (bx (encA43 (A3.mk h.a0 h.a1 h.a2))))] mo (wM <| wE (oMl 0 (hr := by decide)) <| wE (oXr ar32 0) <| wR (oLa sh30) <| wM <| wE (oMl 0 (hr := by decide)) <| wE (oAd 1 (hr := by decide)) <| wE (oXr ar32 1) <| wR (oLa sh30) <| wM <| wE (oMl 0 (hr := by decide)) <| wE (oAd 2 (hr := by decide)) <| wE (oXr ar32 2) <| wR (oLa sh30) <| wE (oBf ar44 ze44 zo44) <| wT (oSt sh44) <| wZ) ?_
  refine pwp_ret ⟨_, (res_a (cs := (bx (encA43 (A3.mk h.a0 h.a1 h.a2)))) (d := (encA43 (A3.mk h.a0 h.a1 h.a2))) rfl rfl sh44 rfl rfl .nil), ?_⟩
  rfl
theorem d_col0 (h : A9 RInt) (h0 h1 h2 h3 h4 h5 h6 h7 h8 : Int) (hh0 : IOk h.a0 h0 1000000000) (hh1 : IOk h.a1 h1 1000000000) (hh2 : IOk h.a2 h2 1000000000) (hh3 : IOk h.a3 h3 1000000000) (hh4 : IOk h.a4 h4 1000000000) (hh5 : IOk h.a5 h5 1000000000) (hh6 : IOk h.a6 h6 1000000000) (hh7 : IOk h.a7 h7 1000000000) (hh8 : IOk h.a8 h8 1000000000) : Takes Tryz.prog 124 [(encA31 h), (.val (.int .i64 (((0 : Nat) : Int))))] (encA43 (A3.mk h.a0 h.a3 h.a6)) := by
  refine fn_intro Tryz.func124 rfl cb124 rfl ?_
  show PWp _ _ _ _ ⟨[(0, (.d (encA31 h))), (1, (vin 0))], []⟩
  refine pwp_seq <| kx [(2, (.ref 0 0)), (4, (.ref 1 0))] [(0, some (bx (encA31 h))), (1, some (bx (encA43 (A3.mk (RInt.mk false []) (RInt.mk false []) (RInt.mk false [])))))] (zN (oBx 0) <| zN (oAl 1 ze44 zo44) <| zZ) ?_
  refine pwp_seq <| kd [] [(1, some (bx (encA43 (A3.mk h.a0 h.a3 h.a6))))] mo (wM <| wE (oXr ar32 0) <| wR (oLa sh30) <| wM <| wE (oAd 3 (hr := by decide)) <| wE (oXr ar32 3) <| wR (oLa sh30) <| wM <| wE (oAd 6 (hr := by decide)) <| wE (oXr ar32 6) <| wR (oLa sh30) <| wE (oBf ar44 ze44 zo44) <| wT (oSt sh44) <| wZ) ?_
  refine pwp_ret ⟨_, (res_a (cs := (bx (encA43 (A3.mk h.a0 h.a3 h.a6)))) (d := (encA43 (A3.mk h.a0 h.a3 h.a6))) rfl rfl sh44 rfl rfl .nil), ?_⟩
  rfl
theorem d_row1 (h : A9 RInt) (h0 h1 h2 h3 h4 h5 h6 h7 h8 : Int) (hh0 : IOk h.a0 h0 1000000000) (hh1 : IOk h.a1 h1 1000000000) (hh2 : IOk h.a2 h2 1000000000) (hh3 : IOk h.a3 h3 1000000000) (hh4 : IOk h.a4 h4 1000000000) (hh5 : IOk h.a5 h5 1000000000) (hh6 : IOk h.a6 h6 1000000000) (hh7 : IOk h.a7 h7 1000000000) (hh8 : IOk h.a8 h8 1000000000) : Takes Tryz.prog 97 [(encA31 h), (.val (.int .i64 (((1 : Nat) : Int))))] (encA43 (A3.mk h.a3 h.a4 h.a5)) := by
  refine fn_intro Tryz.func97 rfl cb97 rfl ?_
  show PWp _ _ _ _ ⟨[(0, (.d (encA31 h))), (1, (vin 1))], []⟩
  refine pwp_seq <| kx [(2, (.ref 0 0)), (4, (.ref 1 0))] [(0, some (bx (encA31 h))), (1, some (bx (encA43 (A3.mk (RInt.mk false []) (RInt.mk false []) (RInt.mk false [])))))] (zN (oBx 0) <| zN (oAl 1 ze44 zo44) <| zZ) ?_
  refine pwp_seq <| kd [] [(1, some (bx (encA43 (A3.mk h.a3 h.a4 h.a5))))] mo (wM <| wE (oMl 3 (hr := by decide)) <| wE (oXr ar32 3) <| wR (oLa sh30) <| wM <| wE (oMl 3 (hr := by decide)) <| wE (oAd 4 (hr := by decide)) <| wE (oXr ar32 4) <| wR (oLa sh30) <| wM <| wE (oMl 3 (hr := by decide)) <| wE (oAd 5 (hr := by decide)) <| wE (oXr ar32 5) <| wR (oLa sh30) <| wE (oBf ar44 ze44 zo44) <| wT (oSt sh44) <| wZ) ?_
  refine pwp_ret ⟨_, (res_a (cs := (bx (encA43 (A3.mk h.a3 h.a4 h.a5)))) (d := (encA43 (A3.mk h.a3 h.a4 h.a5))) rfl rfl sh44 rfl rfl .nil), ?_⟩
  rfl
theorem d_col1 (h : A9 RInt) (h0 h1 h2 h3 h4 h5 h6 h7 h8 : Int) (hh0 : IOk h.a0 h0 1000000000) (hh1 : IOk h.a1 h1 1000000000) (hh2 : IOk h.a2 h2 1000000000) (hh3 : IOk h.a3 h3 1000000000) (hh4 : IOk h.a4 h4 1000000000) (hh5 : IOk h.a5 h5 1000000000) (hh6 : IOk h.a6 h6 1000000000) (hh7 : IOk h.a7 h7 1000000000) (hh8 : IOk h.a8 h8 1000000000) : Takes Tryz.prog 124 [(encA31 h), (.val (.int .i64 (((1 : Nat) : Int))))] (encA43 (A3.mk h.a1 h.a4 h.a7)) := by
  refine fn_intro Tryz.func124 rfl cb124 rfl ?_
  show PWp _ _ _ _ ⟨[(0, (.d (encA31 h))), (1, (vin 1))], []⟩
  refine pwp_seq <| kx [(2, (.ref 0 0)), (4, (.ref 1 0))] [(0, some (bx (encA31 h))), (1, some (bx (encA43 (A3.mk (RInt.mk false []) (RInt.mk false []) (RInt.mk false [])))))] (zN (oBx 0) <| zN (oAl 1 ze44 zo44) <| zZ) ?_
  refine pwp_seq <| kd [] [(1, some (bx (encA43 (A3.mk h.a1 h.a4 h.a7))))] mo (wM <| wE (oXr ar32 1) <| wR (oLa sh30) <| wM <| wE (oAd 4 (hr := by decide)) <| wE (oXr ar32 4) <| wR (oLa sh30) <| wM <| wE (oAd 7 (hr := by decide)) <| wE (oXr ar32 7) <| wR (oLa sh30) <| wE (oBf ar44 ze44 zo44) <| wT (oSt sh44) <| wZ) ?_
  refine pwp_ret ⟨_, (res_a (cs := (bx (encA43 (A3.mk h.a1 h.a4 h.a7)))) (d := (encA43 (A3.mk h.a1 h.a4 h.a7))) rfl rfl sh44 rfl rfl .nil), ?_⟩
  rfl
theorem d_row2 (h : A9 RInt) (h0 h1 h2 h3 h4 h5 h6 h7 h8 : Int) (hh0 : IOk h.a0 h0 1000000000) (hh1 : IOk h.a1 h1 1000000000) (hh2 : IOk h.a2 h2 1000000000) (hh3 : IOk h.a3 h3 1000000000) (hh4 : IOk h.a4 h4 1000000000) (hh5 : IOk h.a5 h5 1000000000) (hh6 : IOk h.a6 h6 1000000000) (hh7 : IOk h.a7 h7 1000000000) (hh8 : IOk h.a8 h8 1000000000) : Takes Tryz.prog 97 [(encA31 h), (.val (.int .i64 (((2 : Nat) : Int))))] (encA43 (A3.mk h.a6 h.a7 h.a8)) := by
  refine fn_intro Tryz.func97 rfl cb97 rfl ?_
  show PWp _ _ _ _ ⟨[(0, (.d (encA31 h))), (1, (vin 2))], []⟩
  refine pwp_seq <| kx [(2, (.ref 0 0)), (4, (.ref 1 0))] [(0, some (bx (encA31 h))), (1, some (bx (encA43 (A3.mk (RInt.mk false []) (RInt.mk false []) (RInt.mk false [])))))] (zN (oBx 0) <| zN (oAl 1 ze44 zo44) <| zZ) ?_
  refine pwp_seq <| kd [] [(1, some (bx (encA43 (A3.mk h.a6 h.a7 h.a8))))] mo (wM <| wE (oMl 6 (hr := by decide)) <| wE (oXr ar32 6) <| wR (oLa sh30) <| wM <| wE (oMl 6 (hr := by decide)) <| wE (oAd 7 (hr := by decide)) <| wE (oXr ar32 7) <| wR (oLa sh30) <| wM <| wE (oMl 6 (hr := by decide)) <| wE (oAd 8 (hr := by decide)) <| wE (oXr ar32 8) <| wR (oLa sh30) <| wE (oBf ar44 ze44 zo44) <| wT (oSt sh44) <| wZ) ?_
  refine pwp_ret ⟨_, (res_a (cs := (bx (encA43 (A3.mk h.a6 h.a7 h.a8)))) (d := (encA43 (A3.mk h.a6 h.a7 h.a8))) rfl rfl sh44 rfl rfl .nil), ?_⟩
  rfl
theorem d_col2 (h : A9 RInt) (h0 h1 h2 h3 h4 h5 h6 h7 h8 : Int) (hh0 : IOk h.a0 h0 1000000000) (hh1 : IOk h.a1 h1 1000000000) (hh2 : IOk h.a2 h2 1000000000) (hh3 : IOk h.a3 h3 1000000000) (hh4 : IOk h.a4 h4 1000000000) (hh5 : IOk h.a5 h5 1000000000) (hh6 : IOk h.a6 h6 1000000000) (hh7 : IOk h.a7 h7 1000000000) (hh8 : IOk h.a8 h8 1000000000) : Takes Tryz.prog 124 [(encA31 h), (.val (.int .i64 (((2 : Nat) : Int))))] (encA43 (A3.mk h.a2 h.a5 h.a8)) := by
  refine fn_intro Tryz.func124 rfl cb124 rfl ?_
  show PWp _ _ _ _ ⟨[(0, (.d (encA31 h))), (1, (vin 2))], []⟩
  refine pwp_seq <| kx [(2, (.ref 0 0)), (4, (.ref 1 0))] [(0, some (bx (encA31 h))), (1, some (bx (encA43 (A3.mk (RInt.mk false []) (RInt.mk false []) (RInt.mk false [])))))] (zN (oBx 0) <| zN (oAl 1 ze44 zo44) <| zZ) ?_
  refine pwp_seq <| kd [] [(1, some (bx (encA43 (A3.mk h.a2 h.a5 h.a8))))] mo (wM <| wE (oXr ar32 2) <| wR (oLa sh30) <| wM <| wE (oAd 5 (hr := by decide)) <| wE (oXr ar32 5) <| wR (oLa sh30) <| wM <| wE (oAd 8 (hr := by decide)) <| wE (oXr ar32 8) <| wR (oLa sh30) <| wE (oBf ar44 ze44 zo44) <| wT (oSt sh44) <| wZ) ?_
  refine pwp_ret ⟨_, (res_a (cs := (bx (encA43 (A3.mk h.a2 h.a5 h.a8)))) (d := (encA43 (A3.mk h.a2 h.a5 h.a8))) rfl rfl sh44 rfl rfl .nil), ?_⟩
  rfl
theorem l_dot (p : A3 RInt) (p0 p1 p2 : Int) (hp0 : IOk p.a0 p0 1000000000) (hp1 : IOk p.a1 p1 1000000000) (hp2 : IOk p.a2 p2 1000000000) (q : A3 RInt) (q0 q1 q2 : Int) (hq0 : IOk q.a0 q0 1000000000) (hq1 : IOk q.a1 q1 1000000000) (hq2 : IOk q.a2 q2 1000000000) : Takes Tryz.prog 56 [(encA43 p), (encA43 q)] (encI (ofZ (((p0 * q0) + (p1 * q1)) + (p2 * q2)))) := by
  refine fn_intro Tryz.func56 rfl cb56 rfl ?_
  show PWp _ _ _ _ ⟨[(0, (.d (encA43 p))), (1, (.d (encA43 q)))], []⟩
  refine pwp_seq <| kx [(2, (.ref 0 0)), (3, (.ref 1 0)), (4, (.ref 2 0))] [(0, some (bx (encA43 p))), (1, some (bx (encA43 q))), (2, some (bx (encI (RInt.mk false []))))] (zN (oBx 0) <| zN (oBx 1) <| zN (oAl 2 ze30 zo30) <| zZ) ?_
  refine pwp_seq <| kd [] [(2, some (bx (encI (ofZ (((p0 * q0) + (p1 * q1)) + (p2 * q2))))))] mo (wE (oXr ar44 0) <| wR (oLa sh30) <| wE (oXr ar44 0) <| wR (oLa sh30) <| wE (oCl (l_times p.a0 p0 (iu hp0) q.a0 q0 (iu hq0))) <| wE (oXr ar44 1) <| wR (oLa sh30) <| wE (oXr ar44 1) <| wR (oLa sh30) <| wE (oCl (l_times p.a1 p1 (iu hp1) q.a1 q1 (iu hq1))) <| wE (oCl (l_plus (ofZ (p0 * q0)) (p0 * q0) (iok_up (iok_mul (k := 2000000000) hp0 hq0 (by decide)) (by decide)) (ofZ (p1 * q1)) (p1 * q1) (iok_up (iok_mul (k := 2000000000) hp1 hq1 (by decide)) (by decide)))) <| wE (oXr ar44 2) <| wR (oLa sh30) <| wE (oXr ar44 2) <| wR (oLa sh30) <| wE (oCl (l_times p.a2 p2 (iu hp2) q.a2 q2 (iu hq2))) <| wE (oCl (l_plus (ofZ ((p0 * q0) + (p1 * q1))) ((p0 * q0) + (p1 * q1)) (iok_up (iok_add (k := 2000000001) (iok_mul (k := 2000000000) hp0 hq0 (by decide)) (iok_mul (k := 2000000000) hp1 hq1 (by decide)) (by decide)) (by decide)) (ofZ (p2 * q2)) (p2 * q2) (iok_up (iok_mul (k := 2000000000) hp2 hq2 (by decide)) (by decide)))) <| wT (oSt sh30) <| wZ) ?_
  refine pwp_ret ⟨_, (res_a (cs := (bx (encI (ofZ (((p0 * q0) + (p1 * q1)) + (p2 * q2)))))) (d := (encI (ofZ (((p0 * q0) + (p1 * q1)) + (p2 * q2))))) rfl rfl sh30 rfl rfl .nil), ?_⟩
  rfl
theorem l_row0 (h : A9 RInt) (h0 h1 h2 h3 h4 h5 h6 h7 h8 : Int) (hh0 : IOk h.a0 h0 1000000000) (hh1 : IOk h.a1 h1 1000000000) (hh2 : IOk h.a2 h2 1000000000) (hh3 : IOk h.a3 h3 1000000000) (hh4 : IOk h.a4 h4 1000000000) (hh5 : IOk h.a5 h5 1000000000) (hh6 : IOk h.a6 h6 1000000000) (hh7 : IOk h.a7 h7 1000000000) (hh8 : IOk h.a8 h8 1000000000) : Takes Tryz.prog 75 [(encA31 h), (.val (.int .i64 (((0 : Nat) : Int))))] (encA43 (A3.mk h.a0 h.a1 h.a2)) := by
  refine fn_intro Tryz.func75 rfl cb75 rfl ?_
  show PWp _ _ _ _ ⟨[(0, (.d (encA31 h))), (1, (vin 0))], []⟩
  refine pwp_seq <| kx [(2, (.ref 0 0)), (4, (.ref 1 0))] [(0, some (bx (encA31 h))), (1, some (bx (encA43 (A3.mk (RInt.mk false []) (RInt.mk false []) (RInt.mk false [])))))] (zN (oBx 0) <| zN (oAl 1 ze44 zo44) <| zZ) ?_
  refine pwp_seq <| kd [] [(1, some (bx (encA43 (A3.mk h.a0 h.a1 h.a2))))] mo (wM <| wE (oMl 0 (hr := by decide)) <| wE (oXr ar32 0) <| wR (oLa sh30) <| wM <| wE (oMl 0 (hr := by decide)) <| wE (oAd 1 (hr := by decide)) <| wE (oXr ar32 1) <| wR (oLa sh30) <| wM <| wE (oMl 0 (hr := by decide)) <| wE (oAd 2 (hr := by decide)) <| wE (oXr ar32 2) <| wR (oLa sh30) <| wE (oBf ar44 ze44 zo44) <| wT (oSt sh44) <| wZ) ?_
  refine pwp_ret ⟨_, (res_a (cs := (bx (encA43 (A3.mk h.a0 h.a1 h.a2)))) (d := (encA43 (A3.mk h.a0 h.a1 h.a2))) rfl rfl sh44 rfl rfl .nil), ?_⟩
  rfl
theorem l_row1 (h : A9 RInt) (h0 h1 h2 h3 h4 h5 h6 h7 h8 : Int) (hh0 : IOk h.a0 h0 1000000000) (hh1 : IOk h.a1 h1 1000000000) (hh2 : IOk h.a2 h2 1000000000) (hh3 : IOk h.a3 h3 1000000000) (hh4 : IOk h.a4 h4 1000000000) (hh5 : IOk h.a5 h5 1000000000) (hh6 : IOk h.a6 h6 1000000000) (hh7 : IOk h.a7 h7 1000000000) (hh8 : IOk h.a8 h8 1000000000) : Takes Tryz.prog 75 [(encA31 h), (.val (.int .i64 (((1 : Nat) : Int))))] (encA43 (A3.mk h.a3 h.a4 h.a5)) := by
  refine fn_intro Tryz.func75 rfl cb75 rfl ?_
  show PWp _ _ _ _ ⟨[(0, (.d (encA31 h))), (1, (vin 1))], []⟩
  refine pwp_seq <| kx [(2, (.ref 0 0)), (4, (.ref 1 0))] [(0, some (bx (encA31 h))), (1, some (bx (encA43 (A3.mk (RInt.mk false []) (RInt.mk false []) (RInt.mk false [])))))] (zN (oBx 0) <| zN (oAl 1 ze44 zo44) <| zZ) ?_
  refine pwp_seq <| kd [] [(1, some (bx (encA43 (A3.mk h.a3 h.a4 h.a5))))] mo (wM <| wE (oMl 3 (hr := by decide)) <| wE (oXr ar32 3) <| wR (oLa sh30) <| wM <| wE (oMl 3 (hr := by decide)) <| wE (oAd 4 (hr := by decide)) <| wE (oXr ar32 4) <| wR (oLa sh30) <| wM <| wE (oMl 3 (hr := by decide)) <| wE (oAd 5 (hr := by decide)) <| wE (oXr ar32 5) <| wR (oLa sh30) <| wE (oBf ar44 ze44 zo44) <| wT (oSt sh44) <| wZ) ?_
  refine pwp_ret ⟨_, (res_a (cs := (bx (encA43 (A3.mk h.a3 h.a4 h.a5)))) (d := (encA43 (A3.mk h.a3 h.a4 h.a5))) rfl rfl sh44 rfl rfl .nil), ?_⟩
  rfl
theorem l_row2 (h : A9 RInt) (h0 h1 h2 h3 h4 h5 h6 h7 h8 : Int) (hh0 : IOk h.a0 h0 1000000000) (hh1 : IOk h.a1 h1 1000000000) (hh2 : IOk h.a2 h2 1000000000) (hh3 : IOk h.a3 h3 1000000000) (hh4 : IOk h.a4 h4 1000000000) (hh5 : IOk h.a5 h5 1000000000) (hh6 : IOk h.a6 h6 1000000000) (hh7 : IOk h.a7 h7 1000000000) (hh8 : IOk h.a8 h8 1000000000) : Takes Tryz.prog 75 [(encA31 h), (.val (.int .i64 (((2 : Nat) : Int))))] (encA43 (A3.mk h.a6 h.a7 h.a8)) := by
  refine fn_intro Tryz.func75 rfl cb75 rfl ?_
  show PWp _ _ _ _ ⟨[(0, (.d (encA31 h))), (1, (vin 2))], []⟩
  refine pwp_seq <| kx [(2, (.ref 0 0)), (4, (.ref 1 0))] [(0, some (bx (encA31 h))), (1, some (bx (encA43 (A3.mk (RInt.mk false []) (RInt.mk false []) (RInt.mk false [])))))] (zN (oBx 0) <| zN (oAl 1 ze44 zo44) <| zZ) ?_
  refine pwp_seq <| kd [] [(1, some (bx (encA43 (A3.mk h.a6 h.a7 h.a8))))] mo (wM <| wE (oMl 6 (hr := by decide)) <| wE (oXr ar32 6) <| wR (oLa sh30) <| wM <| wE (oMl 6 (hr := by decide)) <| wE (oAd 7 (hr := by decide)) <| wE (oXr ar32 7) <| wR (oLa sh30) <| wM <| wE (oMl 6 (hr := by decide)) <| wE (oAd 8 (hr := by decide)) <| wE (oXr ar32 8) <| wR (oLa sh30) <| wE (oBf ar44 ze44 zo44) <| wT (oSt sh44) <| wZ) ?_
  refine pwp_ret ⟨_, (res_a (cs := (bx (encA43 (A3.mk h.a6 h.a7 h.a8)))) (d := (encA43 (A3.mk h.a6 h.a7 h.a8))) rfl rfl sh44 rfl rfl .nil), ?_⟩
  rfl
end Go.Proofs.YtadkkhdnccljcaaGreat
namespace Go.Proofs.YtadkkhdnccljcaaGreat
open Go.Fid
set_option maxRecDepth 4000
set_option linter.unusedVariables false
set_option linter.unusedSimpArgs false
theorem cb99 : callB Tryz.prog 99 = true := by kernel_rfl
theorem fo67_0 : fieldB Tryz.prog 67 0 = some 0 := by kernel_rfl
theorem fo67_1 : fieldB Tryz.prog 67 1 = some 2 := by kernel_rfl
theorem sh67 : shapeB Tryz.prog 67 = some (true, 4) := by kernel_rfl
theorem ze67 : zeroB Tryz.prog 67 = some [.bool false, .slice none 0 0, .bool false, .slice none 0 0] := by kernel_rfl
theorem zo67 : ZOk [.bool false, .slice none 0 0, .bool false, .slice none 0 0] [.val (.bool false), .sl 138 1 [], .val (.bool false), .sl 138 1 []] := by simp [ZOk, Value.oneCell']
theorem f_valid (x : RRat) (p : Rat) (hx : QOk x p 17179869184) : Takes Tryz.prog 99 [(encR x)] (.val (.bool ((validR x)))) := by
  refine fn_intro Tryz.func99 rfl cb99 rfl ?_
  show PWp _ _ _ _ ⟨[(0, (.d (encR x)))], []⟩
  refine pwp_seq <| kx [(1, (.ref 0 0))] [(0, some (bx (encR x)))] (zN (oBx 0) <| zM <| zZ) ?_
  refine pwp_seq <| pwp_seq <| kx [(18, (vb ((!(validI x.num) || !(validI x.den)) || decide ((signI (toZ x.den)) ≤ 0))))] [] ?_ ?_
  · refine zE (oFr fo67_0) <| zR (oLa sh30) <| zE (oCl (t_valid x.num (Nat.le_trans (iok_raw hx.n1).l (by decide)))) <| zE oNt <| zE (oV (vb (!(validI x.num))) (mv_ok (by kernel_rfl))) <| ?_
    rcases hb1 : (!(validI x.num)) with _ | _
    · refine zE (oFr fo67_1) <| zR (oLa sh30) <| zE (oCl (t_valid x.den (Nat.le_trans (iok_raw hx.n2).l (by decide)))) <| zE oNt <| zE oPo <| zE (oV (vb (false || !(validI x.den))) (mv_ok (by kernel_rfl))) <| ?_
      rcases hb2 : (false || !(validI x.den)) with _ | _
      · exact zE (oFr fo67_1) <| zR (oLa sh30) <| zE (oCl (s_sign (iok_raw hx.n2) (by decide))) <| zE oLe <| zE oPo <| zZ
      · exact zK <| zK <| zK <| zK <| zE oPt <| zZ
    · exact zK <| zK <| zK <| zK <| zE oPt <| zM <| zK <| zK <| zK <| zK <| zE oPt <| zZ
  refine pwp_cond rfl (fun h3 => ?_) (fun h3 => ?_)
  · refine pwp_seq <| kx [(2, (vb false))] [] (zM <| zZ) ?_
    refine pwp_ret ⟨_, (.tmp (d := (.val (.bool (false)))) rfl .nil), ?_⟩
    rw [validR_no h3]; rfl
  · refine pwp_skip <| pwp_seq <| kx [(2, (vb ((cmpI (((Int.gcd (toZ x.num) (toZ x.den) : Nat) : Int)) 1) == 0)))] [] (zE (oFr fo67_0) <| zR (oLa sh30) <| zE (oFr fo67_1) <| zR (oLa sh30) <| zE (oCl (s_gcd (iok_raw hx.n1) (iok_raw hx.n2) (by decide) (by decide))) <| zE (oCl (t_of 1 (by decide) (by decide))) <| zE (oCl (s_compare (iok_gcd (k := 17179869184) (iok_raw hx.n1) (iok_raw hx.n2) (by decide)) (iok_small (z := 1) (by decide)) (by decide) (by decide))) <| zE oEq <| zM <| zZ) ?_
    refine pwp_ret ⟨_, (.tmp (d := (.val (.bool (((cmpI (((Int.gcd (toZ x.num) (toZ x.den) : Nat) : Int)) 1) == 0))))) rfl .nil), ?_⟩
    rw [validR_yes h3]; rfl
end Go.Proofs.YtadkkhdnccljcaaGreat
namespace Go.Proofs.YtadkkhdnccljcaaGreat
open Go.Fid
set_option maxRecDepth 4000
set_option linter.unusedVariables false
set_option linter.unusedSimpArgs false
theorem cb50 : callB Tryz.prog 50 = true := by kernel_rfl
theorem cb110 : callB Tryz.prog 110 = true := by kernel_rfl
theorem g_whole1 (n : Int) (hlo : -9223372036854775808 ≤ n) (hhi : n ≤ 9223372036854775807) : Takes Tryz.prog 110 [(.val (.int .i64 (n)))] (encI (ofZ n)) := by
  refine fn_intro Tryz.func110 rfl cb110 rfl ?_
  show PWp _ _ _ _ ⟨[(0, (vi n))], []⟩
  refine pwp_seq <| kx [(2, (.ref 0 0))] [(0, some (bx (encI (RInt.mk false []))))] (zN (oAl 0 ze30 zo30) <| zZ) ?_
  refine pwp_seq <| kx [] [(0, some (bx (encI (ofZ n))))] (zM <| zE (oCl (r_of n (by omega) (by omega))) <| zT (oSt sh30) <| zZ) ?_
  refine pwp_ret ⟨_, (res_a (cs := (bx (encI (ofZ n)))) (d := (encI (ofZ n))) rfl rfl sh30 rfl rfl .nil), ?_⟩
  rfl
theorem g_valid (x : RRat) (p : Rat) (hx : QOk x p 17179869184) : Takes Tryz.prog 50 [(encR x)] (.val (.bool ((validR x)))) := by
  refine fn_intro Tryz.func50 rfl cb50 rfl ?_
  show PWp _ _ _ _ ⟨[(0, (.d (encR x)))], []⟩
  refine pwp_seq <| kx [(1, (.ref 0 0))] [(0, some (bx (encR x)))] (zN (oBx 0) <| zM <| zZ) ?_
  refine pwp_seq <| pwp_seq <| kx [(18, (vb ((!(validI x.num) || !(validI x.den)) || decide ((signI (toZ x.den)) ≤ 0))))] [] ?_ ?_
  · refine zE (oFr fo67_0) <| zR (oLa sh30) <| zE (oCl (r_valid x.num (Nat.le_trans (iok_raw hx.n1).l (by decide)))) <| zE oNt <| zE (oV (vb (!(validI x.num))) (mv_ok (by kernel_rfl))) <| ?_
    rcases hb1 : (!(validI x.num)) with _ | _
    · refine zE (oFr fo67_1) <| zR (oLa sh30) <| zE (oCl (r_valid x.den (Nat.le_trans (iok_raw hx.n2).l (by decide)))) <| zE oNt <| zE oPo <| zE (oV (vb (false || !(validI x.den))) (mv_ok (by kernel_rfl))) <| ?_
      rcases hb2 : (false || !(validI x.den)) with _ | _
      · exact zE (oFr fo67_1) <| zR (oLa sh30) <| zE (oCl (rs_sign (iok_raw hx.n2) (by decide))) <| zE oLe <| zE oPo <| zZ
      · exact zK <| zK <| zK <| zK <| zE oPt <| zZ
    · exact zK <| zK <| zK <| zK <| zE oPt <| zM <| zK <| zK <| zK <| zK <| zE oPt <| zZ
  refine pwp_cond rfl (fun h3 => ?_) (fun h3 => ?_)
  · refine pwp_seq <| kx [(2, (vb false))] [] (zM <| zZ) ?_
    refine pwp_ret ⟨_, (.tmp (d := (.val (.bool (false)))) rfl .nil), ?_⟩
    rw [validR_no h3]; rfl
  · refine pwp_skip <| pwp_seq <| kx [(2, (vb ((cmpI (((Int.gcd (toZ x.num) (toZ x.den) : Nat) : Int)) 1) == 0)))] [] (zE (oFr fo67_0) <| zR (oLa sh30) <| zE (oFr fo67_1) <| zR (oLa sh30) <| zE (oCl (rs_gcd (iok_raw hx.n1) (iok_raw hx.n2) (by decide) (by decide))) <| zE (oCl (g_whole1 1 (by decide) (by decide))) <| zE (oCl (rs_compare (iok_gcd (k := 17179869184) (iok_raw hx.n1) (iok_raw hx.n2) (by decide)) (iok_small (z := 1) (by decide)) (by decide) (by decide))) <| zE oEq <| zM <| zZ) ?_
    refine pwp_ret ⟨_, (.tmp (d := (.val (.bool (((cmpI (((Int.gcd (toZ x.num) (toZ x.den) : Nat) : Int)) 1) == 0))))) rfl .nil), ?_⟩
    rw [validR_yes h3]; rfl
end Go.Proofs.YtadkkhdnccljcaaGreat
namespace Go.Proofs.YtadkkhdnccljcaaGreat
open Go.Fid
set_option maxRecDepth 4000
set_option linter.unusedVariables false
set_option linter.unusedSimpArgs false
theorem cb48 : callB Tryz.prog 48 = true := by kernel_rfl
theorem g_digits (x : RRat) (p : Rat) (hx : QOk x p 140737488355328) : Takes Tryz.prog 48 [(encR x)] (.val (.int .i64 ((((digR x) : Nat) : Int)))) := by
  have h1 := hx.n1
  have h2 := hx.n2
  refine fn_intro Tryz.func48 rfl cb48 rfl ?_
  show PWp _ _ _ _ ⟨[(0, (.d (encR x)))], []⟩
  refine pwp_seq <| kx [(1, (.ref 0 0))] [(0, some (bx (encR x)))] (zN (oBx 0) <| zM <| zZ) ?_
  refine pwp_seq <| kx [(2, (vin (x.num.gs.length + x.den.gs.length)))] [] (zE (oFr fo67_0) <| zE (oFr fo30_1) <| zR (oL1 sh28) <| zE (oLm el28) <| zE (oFr fo67_1) <| zE (oFr fo30_1) <| zR (oL1 sh28) <| zE (oLm el28) <| zE (oAd (x.num.gs.length + x.den.gs.length)) <| zM <| zZ) ?_
  refine pwp_ret ⟨_, (.tmp (d := (.val (.int .i64 ((((x.num.gs.length + x.den.gs.length) : Nat) : Int))))) rfl .nil), ?_⟩
  rfl
end Go.Proofs.YtadkkhdnccljcaaGreat
