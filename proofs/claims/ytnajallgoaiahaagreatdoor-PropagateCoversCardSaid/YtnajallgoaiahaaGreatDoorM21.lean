/- Part 21 of a proof: rules, plain facts, and functions walked. -/
import Derived.Test.YtnajallgoaiahaaGreatDoorM20
import Derived.Test.YtnajallgoaiahaaGreatDoorM11
import Derived.Test.YtnajallgoaiahaaGreatDoorM12
import Derived.Test.YtnajallgoaiahaaGreatDoorM10
namespace Go.Proofs.YtnajallgoaiahaaGreatDoor
open Go.Fid
set_option maxRecDepth 4000
set_option linter.unusedVariables false
set_option linter.unusedSimpArgs false
theorem cb92 : callB Tryz.prog 92 = true := by kernel_rfl
theorem cb93 : callB Tryz.prog 93 = true := by kernel_rfl
theorem i_add (p q r s : Rat) (hp : QL p 1073741824) (hq : QL q 1073741824) (hr : QL r 1073741824) (hs : QL s 1073741824) (hpq : p ≤ q) (hrs : r ≤ s) : jW Tryz.prog 92 [(jG (kD.mk (jS p) (jS q))), (jG (kD.mk (jS r) (jS s)))] (.tup [(jG (kD.mk (jS (p + r)) (jS (q + s)))), (.val (.int .i64 (0)))]) := by
 refine jM Tryz.func92 rfl cb92 rfl ?_
 show qJ _ _ _ _ ⟨[(0, (.d (jG (kD.mk (jS p) (jS q))))), (1, (.d (jG (kD.mk (jS r) (jS s)))))], []⟩
 refine jB <| kx [(2, (.ref 0 0)), (3, (.ref 1 0)), (4, (.ref 2 0))] [(0, some (bx (jG (kD.mk (jS p) (jS q))))), (1, some (bx (jG (kD.mk (jS r) (jS s))))), (2, some (bx (jG (kD.mk (jJ.mk (jE.mk false []) (jE.mk false [])) (jJ.mk (jE.mk false []) (jE.mk false []))))))] (zN (uZ 0) <| zN (uZ 1) <| zN (qS 2 uI uP) <| zM <| zZ) ?_
 refine jB <| jB <| kx [(10, (vb false))] [] (zR (kK kS) <| zR (kK kS) <| zE (nU yR uI uP) <| zE (kG (by have h := i_valids [(kD.mk (jS p) (jS q)), (kD.mk (jS r) (jS s))] (List.forall_mem_cons.2 ⟨(nT (⟨uE (jR (kM hp) (by decide : 1073741824 ≤ 1073741824)), uE (jR (kM hq) (by decide : 1073741824 ≤ 1073741824))⟩) (by decide)), (List.forall_mem_cons.2 ⟨(nT (⟨uE (jR (kM hr) (by decide : 1073741824 ≤ 1073741824)), uE (jR (kM hs) (by decide : 1073741824 ≤ 1073741824))⟩) (by decide)), (fun a h => by cases h)⟩)⟩) (by simp); rw [show List.all [(kD.mk (jS p) (jS q)), (kD.mk (jS r) (jS s))] xB = true from by simp [yO hpq, yO hrs]] at h; exact h)) <| zE cE <| zZ) ?_
 refine kO ?_
 refine jF <| jB <| kd [(5, (jN 0))] [(2, some (bx (jG (kD.mk (jS (p + r)) (jS (q + s))))))] mo (wE (qC xJ) <| wR (kK jO) <| wE (qC xJ) <| wR (kK jO) <| wE (kG (f_add (jS p) (jS r) p r (jR (kM hp) (by decide)) (jR (kM hr) (by decide)))) <| wE (qC xR) <| wR (kK jO) <| wE (qC xR) <| wR (kK jO) <| wE (kG (f_add (jS q) (jS s) q s (jR (kM hq) (by decide)) (jR (kM hs) (by decide)))) <| wE (fM pl61 uI uP) <| wT (qF kS) <| wM <| wZ) ?_
 refine jH ⟨_, (qA (cs := (bx (jG (kD.mk (jS (p + r)) (jS (q + s)))))) (d := (jG (kD.mk (jS (p + r)) (jS (q + s))))) rfl rfl kS rfl rfl (.tmp (d := (.val (.int .i64 (0)))) rfl .nil)), ?_⟩
 rfl
theorem i_sub (p q r s : Rat) (hp : QL p 1073741824) (hq : QL q 1073741824) (hr : QL r 1073741824) (hs : QL s 1073741824) (hpq : p ≤ q) (hrs : r ≤ s) : jW Tryz.prog 93 [(jG (kD.mk (jS p) (jS q))), (jG (kD.mk (jS r) (jS s)))] (.tup [(jG (kD.mk (jS (p - s)) (jS (q - r)))), (.val (.int .i64 (0)))]) := by
 refine jM Tryz.func93 rfl cb93 rfl ?_
 show qJ _ _ _ _ ⟨[(0, (.d (jG (kD.mk (jS p) (jS q))))), (1, (.d (jG (kD.mk (jS r) (jS s)))))], []⟩
 refine jB <| kx [(2, (.ref 0 0)), (3, (.ref 1 0)), (4, (.ref 2 0))] [(0, some (bx (jG (kD.mk (jS p) (jS q))))), (1, some (bx (jG (kD.mk (jS r) (jS s))))), (2, some (bx (jG (kD.mk (jJ.mk (jE.mk false []) (jE.mk false [])) (jJ.mk (jE.mk false []) (jE.mk false []))))))] (zN (uZ 0) <| zN (uZ 1) <| zN (qS 2 uI uP) <| zM <| zZ) ?_
 refine jB <| jB <| kx [(10, (vb false))] [] (zR (kK kS) <| zR (kK kS) <| zE (nU yR uI uP) <| zE (kG (by have h := i_valids [(kD.mk (jS p) (jS q)), (kD.mk (jS r) (jS s))] (List.forall_mem_cons.2 ⟨(nT (⟨uE (jR (kM hp) (by decide : 1073741824 ≤ 1073741824)), uE (jR (kM hq) (by decide : 1073741824 ≤ 1073741824))⟩) (by decide)), (List.forall_mem_cons.2 ⟨(nT (⟨uE (jR (kM hr) (by decide : 1073741824 ≤ 1073741824)), uE (jR (kM hs) (by decide : 1073741824 ≤ 1073741824))⟩) (by decide)), (fun a h => by cases h)⟩)⟩) (by simp); rw [show List.all [(kD.mk (jS p) (jS q)), (kD.mk (jS r) (jS s))] xB = true from by simp [yO hpq, yO hrs]] at h; exact h)) <| zE cE <| zZ) ?_
 refine kO ?_
 refine jF <| jB <| kd [(5, (jN 0))] [(2, some (bx (jG (kD.mk (jS (p - s)) (jS (q - r))))))] mo (wE (qC xJ) <| wR (kK jO) <| wE (qC xR) <| wR (kK jO) <| wE (kG (f_sub (jS p) (jS s) p s (jR (kM hp) (by decide)) (jR (kM hs) (by decide)))) <| wE (qC xR) <| wR (kK jO) <| wE (qC xJ) <| wR (kK jO) <| wE (kG (f_sub (jS q) (jS r) q r (jR (kM hq) (by decide)) (jR (kM hr) (by decide)))) <| wE (fM pl61 uI uP) <| wT (qF kS) <| wM <| wZ) ?_
 refine jH ⟨_, (qA (cs := (bx (jG (kD.mk (jS (p - s)) (jS (q - r)))))) (d := (jG (kD.mk (jS (p - s)) (jS (q - r))))) rfl rfl kS rfl rfl (.tmp (d := (.val (.int .i64 (0)))) rfl .nil)), ?_⟩
 rfl
end Go.Proofs.YtnajallgoaiahaaGreatDoor
namespace Go.Proofs.YtnajallgoaiahaaGreatDoor
open Go.Fid
set_option maxRecDepth 4000
set_option linter.unusedVariables false
set_option linter.unusedSimpArgs false
theorem by45 : yM Tryz.prog 45 = some 64 := by kernel_rfl
end Go.Proofs.YtnajallgoaiahaaGreatDoor
namespace Go.Proofs.YtnajallgoaiahaaGreatDoor
open Go.Fid
set_option maxRecDepth 4000
set_option linter.unusedVariables false
set_option linter.unusedSimpArgs false
end Go.Proofs.YtnajallgoaiahaaGreatDoor
namespace Go.Proofs.YtnajallgoaiahaaGreatDoor
open Go.Fid
set_option maxRecDepth 4000
set_option linter.unusedVariables false
set_option linter.unusedSimpArgs false
end Go.Proofs.YtnajallgoaiahaaGreatDoor
set_option linter.unusedVariables false
set_option linter.unusedSimpArgs false
namespace Go.Fid
inductive LOk (n : Nat) : List jE → List Int → Prop
  | nil : LOk n [] []
  | cons {x : jE} {z : Int} {l : List jE} {zs : List Int} (h : yK x z n) (t : LOk n l zs) : LOk n (x :: l) (z :: zs)
theorem iok_nilN (n : Nat) : yK ⟨false, []⟩ 0 n := ⟨by decide, Nat.zero_le _⟩
theorem LOk.len {n : Nat} {l : List jE} {zs : List Int} (h : LOk n l zs) : l.length = zs.length := by
  induction h with
  | nil => rfl
  | cons h t ih => simp [ih]
theorem LOk.get {n : Nat} {l : List jE} {zs : List Int} (h : LOk n l zs) (i : Nat) : yK (l.getD i ⟨false, []⟩) (zs.getD i 0) n := by
  induction h generalizing i with
  | nil => exact iok_nilN n
  | cons h t ih =>
    rcases i with _ | i
    · exact h
    · exact ih i
theorem LOk.all {n : Nat} {l : List jE} {zs : List Int} (h : LOk n l zs) : ∀ z ∈ zs, nY z ≤ n := by
  induction h with
  | nil => simp
  | cons h t ih =>
    intro z hz
    rcases List.mem_cons.1 hz with rfl | hz
    · exact h.ln
    · exact ih z hz
theorem LOk.up {m n : Nat} {l : List jE} {zs : List Int} (h : LOk m l zs) (hm : m ≤ n) : LOk n l zs := by
  induction h with
  | nil => exact .nil
  | cons h t ih => exact .cons (gN h hm) ih
theorem signI_ne {z : Int} (h : z ≠ 0) : uB z ≠ 0 := by
  unfold uB; split <;> (try split) <;> omega
theorem LOk.map {n : Nat} {l : List jE} {zs : List Int} (h : LOk n l zs) : l.map kC = zs := by
  induction h with
  | nil => rfl
  | cons h t ih => rw [List.map_cons, ih, h.v]
theorem all_nil {l : List jE} (h : ∀ x ∈ l, x = jE.mk false []) (i : Nat) : l.getD i (jE.mk false []) = jE.mk false [] := by
  rw [List.getD]
  cases hj : l[i]? with
  | none => rfl
  | some q => exact h q (List.mem_of_getElem? hj)
end Go.Fid
namespace Go.Proofs.YtnajallgoaiahaaGreatDoor
open Go.Fid
def yI (n : Nat) (l : List jJ) : Prop := (∀ a ∈ l, yT a (kH a) n) ∧ l.length ≤ 140737488355328
def nD (n : Nat) (m : List (List jJ)) : Prop := (∀ r ∈ m, yI n r) ∧ m.length ≤ 140737488355328
def cN (l : List jJ) : Bool := l.all jX
theorem xI {l : List jJ} {n j : Nat} {d : jJ} (h : ∀ a ∈ l, yT a (kH a) n) (hj : j < l.length) : yT (l.getD j d) (kH (l.getD j d)) n := by
  rw [List.getD_eq_getElem?_getD, List.getElem?_eq_getElem hj]; exact h _ (List.getElem_mem hj)
theorem row_up {n k : Nat} {l : List jJ} (h : yI n l) (hk : n ≤ k) : yI k l := ⟨fun a ha => jR (h.1 a ha) hk, h.2⟩
theorem mat_up {n k : Nat} {m : List (List jJ)} (h : nD n m) (hk : n ≤ k) : nD k m := ⟨fun a ha => row_up (h.1 a ha) hk, h.2⟩
theorem xM {n i : Nat} {m : List (List jJ)} {d : List jJ} (h : nD n m) (hi : i < m.length) : yI n (m.getD i d) := by
  rw [List.getD_eq_getElem?_getD, List.getElem?_eq_getElem hi]; exact h.1 _ (List.getElem_mem hi)
theorem take_all {α : Type} {f : α → Bool} {l : List α} {i : Nat} {d : α} (h : i < l.length) : (l.take (i + 1)).all f = ((l.take i).all f && f (l.getD i d)) := by
  rw [List.getD_eq_getElem?_getD, List.getElem?_eq_getElem h, List.take_succ_eq_append_getElem h, List.all_append]
  simp
end Go.Proofs.YtnajallgoaiahaaGreatDoor
set_option linter.unusedVariables false
set_option linter.unusedSimpArgs false
namespace Go.Fid
def cH (o : Int) : Int := if o = 0 ∨ o = 1 then 0 else if o = 6 ∨ o = 7 then 1 else if o = 2 ∨ o = 3 ∨ o = 4 ∨ o = 5 then 2 else -1
theorem kd_cases (o : Int) : (cH o = 0 ∧ (o = 0 ∨ o = 1)) ∨ (cH o = 1 ∧ (o = 6 ∨ o = 7)) ∨ (cH o = 2 ∧ (o = 2 ∨ o = 3 ∨ o = 4 ∨ o = 5)) ∨ (cH o = -1 ∧ ¬ (o = 0 ∨ o = 1) ∧ ¬ (o = 6 ∨ o = 7) ∧ ¬ (o = 2 ∨ o = 3 ∨ o = 4 ∨ o = 5)) := by
  unfold cH
  by_cases h1 : o = 0 ∨ o = 1
  · exact .inl ⟨if_pos h1, h1⟩
  by_cases h2 : o = 6 ∨ o = 7
  · exact .inr (.inl ⟨by rw [if_neg h1, if_pos h2], h2⟩)
  by_cases h3 : o = 2 ∨ o = 3 ∨ o = 4 ∨ o = 5
  · exact .inr (.inr (.inl ⟨by rw [if_neg h1, if_neg h2, if_pos h3], h3⟩))
  · exact .inr (.inr (.inr ⟨by rw [if_neg h1, if_neg h2, if_neg h3], h1, h2, h3⟩))
def unsB (x : jJ) : Bool := ((!x.num.neg && !x.den.neg) && (((x.num.gs.length : Nat) : Int) == 0)) && (((x.den.gs.length : Nat) : Int) == 0)
theorem uns_eq {x : jJ} (h : unsB x = true) : x = zr := by
  obtain ⟨⟨n, g⟩, ⟨m, d⟩⟩ := x
  unfold unsB at h
  simp only [Bool.and_eq_true, Bool.not_eq_true', beq_iff_eq] at h
  obtain ⟨⟨⟨h1, h2⟩, h3⟩, h4⟩ := h
  have e3 : g = [] := List.eq_nil_of_length_eq_zero (by omega)
  have e4 : d = [] := List.eq_nil_of_length_eq_zero (by omega)
  subst h1; subst h2; subst e3; subst e4
  rfl
def badN (x : vB) : Prop := cH x.op < 0 ∨ (cH x.op < 2 ∧ x.b ≠ 0) ∨ (x.op = 0 ∧ (x.a ≠ 0 ∨ jX x.n = false)) ∨ (x.op ≠ 0 ∧ unsB x.n = false)
instance (x : vB) : Decidable (badN x) := by unfold badN; infer_instance
def ordN (k : Int) (x : vB) : Prop := (0 < cH x.op ∧ (x.a < 0 ∨ k ≤ x.a)) ∨ (1 < cH x.op ∧ (x.b < 0 ∨ k ≤ x.b))
instance (k : Int) (x : vB) : Decidable (ordN k x) := by unfold ordN; infer_instance
def rngN (z : Int) (x : vB) : Prop := x.op = 1 ∧ (x.a < 0 ∨ z ≤ x.a)
instance (z : Int) (x : vB) : Decidable (rngN z x) := by unfold rngN; infer_instance
def szN (ss : List Int) (x : vB) : Int := if cH x.op = 0 then 1 else if x.op = 6 then ss.getD x.a.toNat 0 else if x.op = 7 then 2 * ss.getD x.a.toNat 0 else ss.getD x.a.toNat 0 + ss.getD x.b.toNat 0
def ndC (z : Int) (ss : List Int) (x : vB) : Nat := if badN x then 1 else if ordN ((ss.length : Nat) : Int) x then 5 else if rngN z x then 2 else if 4096 < szN ss x then 3 else 0
def szU (t : List vB) : Nat → List Int
  | 0 => []
  | k + 1 => szU t k ++ [szN (szU t k) (t.getD k tz)]
theorem aC (t : List vB) : ∀ k, (szU t k).length = k
  | 0 => rfl
  | k + 1 => by rw [szU, List.length_append, aC t k]; rfl
def szUp (z : Int) (t : List vB) (k : Nat) : Prop := ∀ i, i < k → ndC z (szU t i) (t.getD i tz) = 0
theorem szUp_0 (z : Int) (t : List vB) : szUp z t 0 := fun i h => by omega
theorem szUp_s {z : Int} {t : List vB} {k : Nat} (h : szUp z t k) (hk : ndC z (szU t k) (t.getD k tz) = 0) : szUp z t (k + 1) := fun i hi => by
  rcases Nat.lt_or_ge i k with h1 | h1
  · exact h i h1
  · obtain rfl : i = k := by omega
    exact hk
def szE (z : Int) (t : List vB) : Nat → Nat → Nat
  | 0, _ => 0
  | f + 1, k => if ndC z (szU t k) (t.getD k tz) = 0 then szE z t f (k + 1) else ndC z (szU t k) (t.getD k tz)
def tmC (z : Int) (t : List vB) : Nat := if z < 0 ∨ 64 < z then 2 else if t.length = 0 then 1 else if 400 < t.length then 3 else szE z t t.length 0
def tmL (z : Int) (t : List vB) : List Int := if tmC z t = 0 then szU t t.length else []
theorem szE_0 {z : Int} {t : List vB} : ∀ {f k : Nat}, szE z t f k = 0 ↔ ∀ i, k ≤ i → i < k + f → ndC z (szU t i) (t.getD i tz) = 0
  | 0, k => by simp only [szE, true_iff]; intro i h1 h2; omega
  | f + 1, k => by
    unfold szE
    constructor
    · intro h i h1 h2
      split at h
      · rename_i h0
        rcases Nat.lt_or_ge k i with h3 | h3
        · exact szE_0.1 h i (by omega) (by omega)
        · obtain rfl : i = k := by omega
          exact h0
      · rename_i h0; exact absurd h h0
    · intro h
      rw [if_pos (h k (Nat.le_refl _) (by omega))]
      exact szE_0.2 fun i h1 h2 => h i (by omega) (by omega)
theorem szE_at {z : Int} {t : List vB} {m : Nat} (hm : ndC z (szU t m) (t.getD m tz) ≠ 0) : ∀ {f k : Nat}, k ≤ m → m < k + f → (∀ i, k ≤ i → i < m → ndC z (szU t i) (t.getD i tz) = 0) → szE z t f k = ndC z (szU t m) (t.getD m tz)
  | 0, k, h1, h2, _ => by omega
  | f + 1, k, h1, h2, h => by
    unfold szE
    rcases Nat.lt_or_ge k m with h3 | h3
    · rw [if_pos (h k (Nat.le_refl _) h3)]
      exact szE_at hm (by omega) (by omega) fun i a b => h i (by omega) b
    · obtain rfl : k = m := by omega
      rw [if_neg hm]
theorem tm_1 {z : Int} {t : List vB} (h : z < 0 ∨ 64 < z) : tmC z t = 2 := if_pos h
theorem tm_2 {z : Int} {t : List vB} (h : ¬ (z < 0 ∨ 64 < z)) (h1 : t.length = 0) : tmC z t = 1 := by unfold tmC; rw [if_neg h, if_pos h1]
theorem tm_3 {z : Int} {t : List vB} (h : ¬ (z < 0 ∨ 64 < z)) (h1 : t.length ≠ 0) (h2 : 400 < t.length) : tmC z t = 3 := by unfold tmC; rw [if_neg h, if_neg h1, if_pos h2]
theorem tm_e {z : Int} {t : List vB} (h : ¬ (z < 0 ∨ 64 < z)) (h1 : t.length ≠ 0) (h2 : ¬ 400 < t.length) : tmC z t = szE z t t.length 0 := by unfold tmC; rw [if_neg h, if_neg h1, if_neg h2]
theorem tm_no {z : Int} {t : List vB} {k : Nat} (h : ¬ (z < 0 ∨ 64 < z)) (h1 : k < t.length) (h2 : ¬ 400 < t.length) (hu : szUp z t k) (hc : ndC z (szU t k) (t.getD k tz) ≠ 0) : tmC z t = ndC z (szU t k) (t.getD k tz) ∧ tmL z t = [] := by
  have e : tmC z t = ndC z (szU t k) (t.getD k tz) := by
    rw [tm_e h (by omega) h2]
    exact szE_at hc (by omega) (by omega) fun i _ hi => hu i hi
  exact ⟨e, if_neg (by rw [e]; exact hc)⟩
theorem tm_yes {z : Int} {t : List vB} (h : ¬ (z < 0 ∨ 64 < z)) (h1 : t.length ≠ 0) (h2 : ¬ 400 < t.length) (hu : szUp z t t.length) : tmC z t = 0 ∧ tmL z t = szU t t.length := by
  have e : tmC z t = 0 := by
    rw [tm_e h h1 h2]
    exact szE_0.2 fun i _ hi => hu i (by omega)
  exact ⟨e, if_pos e⟩
theorem tm_n {z : Int} {t : List vB} (h : tmC z t ≠ 0) : tmL z t = [] := if_neg h
theorem tm_0 {z : Int} {t : List vB} (h : tmC z t = 0) : 0 ≤ z ∧ z ≤ 64 ∧ t.length ≠ 0 ∧ t.length ≤ 400 ∧ szUp z t t.length := by
  by_cases h0 : z < 0 ∨ 64 < z
  · rw [tm_1 h0] at h; cases h
  by_cases h1 : t.length = 0
  · rw [tm_2 h0 h1] at h; cases h
  by_cases h2 : 400 < t.length
  · rw [tm_3 h0 h1 h2] at h; cases h
  rw [tm_e h0 h1 h2] at h
  exact ⟨by omega, by omega, h1, by omega, fun i hi => szE_0.1 h i (by omega) (by omega)⟩
theorem nd_0 {z : Int} {ss : List Int} {x : vB} (h : ndC z ss x = 0) : ¬ badN x ∧ ¬ ordN ((ss.length : Nat) : Int) x ∧ ¬ rngN z x ∧ szN ss x ≤ 4096 := by
  unfold ndC at h
  split at h
  · cases h
  · rename_i h1
    split at h
    · cases h
    · rename_i h2
      split at h
      · cases h
      · rename_i h3
        split at h
        · cases h
        · rename_i h4
          exact ⟨h1, h2, h3, by omega⟩
theorem nd_1 {z : Int} {ss : List Int} {x : vB} (h : badN x) : ndC z ss x = 1 := if_pos h
theorem nd_5 {z : Int} {ss : List Int} {x : vB} (h : ¬ badN x) (h2 : ordN ((ss.length : Nat) : Int) x) : ndC z ss x = 5 := by unfold ndC; rw [if_neg h, if_pos h2]
theorem nd_2 {z : Int} {ss : List Int} {x : vB} (h : ¬ badN x) (h2 : ¬ ordN ((ss.length : Nat) : Int) x) (h3 : rngN z x) : ndC z ss x = 2 := by unfold ndC; rw [if_neg h, if_neg h2, if_pos h3]
theorem nd_3 {z : Int} {ss : List Int} {x : vB} (h : ¬ badN x) (h2 : ¬ ordN ((ss.length : Nat) : Int) x) (h3 : ¬ rngN z x) (h4 : 4096 < szN ss x) : ndC z ss x = 3 := by unfold ndC; rw [if_neg h, if_neg h2, if_neg h3, if_pos h4]
theorem nd_y {z : Int} {ss : List Int} {x : vB} (h : ¬ badN x) (h2 : ¬ ordN ((ss.length : Nat) : Int) x) (h3 : ¬ rngN z x) (h4 : ¬ 4096 < szN ss x) : ndC z ss x = 0 := by unfold ndC; rw [if_neg h, if_neg h2, if_neg h3, if_neg h4]
theorem sz_rng {z : Int} {t : List vB} : ∀ {k : Nat}, szUp z t k → ∀ j, j < k → 1 ≤ (szU t k).getD j 0 ∧ (szU t k).getD j 0 ≤ 4096
  | 0, _, j, h => by omega
  | k + 1, hu, j, hj => by
    have ih := sz_rng (k := k) (fun i hi => hu i (by omega))
    have hl := aC t k
    obtain ⟨h1, h2, h3, h4⟩ := nd_0 (hu k (by omega))
    rw [hl] at h2
    unfold szU
    rcases Nat.lt_or_ge j k with h | h
    · rw [List.getD_eq_getElem?_getD, List.getElem?_append_left (by omega), ← List.getD_eq_getElem?_getD]
      exact ih j h
    · obtain rfl : j = k := by omega
      rw [List.getD_eq_getElem?_getD, List.getElem?_append_right (by omega), hl, Nat.sub_self]
      show 1 ≤ szN (szU t j) (t.getD j tz) ∧ szN (szU t j) (t.getD j tz) ≤ 4096
      refine ⟨?_, h4⟩
      have hA : ∀ a : Int, 0 ≤ a → a < j → 1 ≤ (szU t j).getD a.toNat 0 := fun a q1 q2 => (ih a.toNat (by omega)).1
      generalize t.getD j tz = x at *
      unfold szN ordN badN at *
      rcases kd_cases x.op with ⟨e, _⟩ | ⟨e, f⟩ | ⟨e, f⟩ | ⟨e, _⟩
      · rw [if_pos e]; exact Int.le_refl _
      · have ha := hA x.a (by omega) (by omega)
        rw [if_neg (by omega)]
        split
        · exact ha
        · split <;> omega
      · have ha := hA x.a (by omega) (by omega)
        have hb := hA x.b (by omega) (by omega)
        rw [if_neg (by omega), if_neg (by omega), if_neg (by omega)]
        omega
      · omega
def szI (t : List vB) (k : Nat) (o : List Int) : Prop := o.length = t.length ∧ o.take k = szU t k
theorem szI_0 {t : List vB} : szI t 0 (List.replicate t.length 0) := ⟨List.length_replicate, rfl⟩
theorem szI.at {t : List vB} {k : Nat} {o : List Int} (h : szI t k o) {j : Nat} (hj : j < k) (hk : k ≤ t.length) : o.getD j 0 = (szU t k).getD j 0 := by
  rw [← h.2, List.getD_eq_getElem?_getD, List.getD_eq_getElem?_getD, List.getElem?_take_of_lt hj]
theorem szI.put {t : List vB} {k : Nat} {o : List Int} (h : szI t k o) (hk : k < t.length) {v : Int} (hv : v = szN (szU t k) (t.getD k tz)) : szI t (k + 1) (o.set k v) := by
  refine ⟨by rw [List.length_set]; exact h.1, ?_⟩
  have hl := h.1
  rw [List.take_succ_eq_append_getElem (by rw [List.length_set]; omega), List.getElem_set_self, List.take_set_of_le (Nat.le_refl k), h.2, szU, hv]
theorem set_getD {o : List Int} {k : Nat} {v : Int} (h : k < o.length) : (o.set k v).getD k 0 = v := by
  rw [List.getD_eq_getElem?_getD, List.getElem?_set_self h]; rfl
theorem szI_end {t : List vB} {o : List Int} (h : szI t t.length o) : o = szU t t.length := by
  rw [← h.2, ← h.1, List.take_length]
def badB (x : vB) : Bool := (((decide (cH x.op < 0) || (decide (cH x.op < 2) && (x.b != 0))) || ((x.op == 0) && ((x.a != 0) || !(jX x.n)))) || ((x.op != 0) && !(unsB x.n)))
def ordB (k : Int) (x : vB) : Bool := ((decide (0 < cH x.op) && (decide (x.a < 0) || decide (k ≤ x.a))) || (decide (1 < cH x.op) && (decide (x.b < 0) || decide (k ≤ x.b))))
def rngB (z : Int) (x : vB) : Bool := ((x.op == 1) && (decide (x.a < 0) || decide (z ≤ x.a)))
theorem badB_iff {x : vB} : badB x = true ↔ badN x := by
  unfold badB badN
  simp only [Bool.or_eq_true, Bool.and_eq_true, decide_eq_true_eq, beq_iff_eq, bne_iff_ne, Bool.not_eq_true', ne_eq, or_assoc]
theorem ordB_iff {k : Int} {x : vB} : ordB k x = true ↔ ordN k x := by
  unfold ordB ordN
  simp only [Bool.or_eq_true, Bool.and_eq_true, decide_eq_true_eq]
theorem rngB_iff {k : Int} {x : vB} : rngB k x = true ↔ rngN k x := by
  unfold rngB rngN
  simp only [Bool.or_eq_true, Bool.and_eq_true, decide_eq_true_eq, beq_iff_eq]
theorem not_of {b : Bool} {p : Prop} (h : b = true ↔ p) (hb : b = false) : ¬ p := fun q => by rw [h.2 q] at hb; cases hb
structure TmR (z : Int) (t : List vB) (k : Nat) : Prop where
  z0 : ¬ (z < 0 ∨ 64 < z)
  kl : k < t.length
  tl : ¬ 400 < t.length
  up : szUp z t k
theorem tmr {z : Int} {t : List vB} {k : Nat} (h : (decide (z < 0) || decide (64 < z)) = false) (h1 : ((k : Nat) : Int) < ((t.length : Nat) : Int)) (h2 : ¬ 400 < ((t.length : Nat) : Int)) (hu : szUp z t k) : TmR z t k := by
  rw [Bool.or_eq_false_iff, decide_eq_false_iff_not, decide_eq_false_iff_not] at h
  exact ⟨by omega, by omega, by omega, hu⟩
theorem zb_t {z : Int} {t : List vB} (h : (decide (z < 0) || decide (64 < z)) = true) : tmC z t = 2 ∧ tmL z t = [] := by
  rw [Bool.or_eq_true, decide_eq_true_eq, decide_eq_true_eq] at h
  have e := tm_1 (t := t) h
  exact ⟨e, tm_n (by rw [e]; decide)⟩
theorem zb_f {z : Int} (h : (decide (z < 0) || decide (64 < z)) = false) : ¬ (z < 0 ∨ 64 < z) := by
  rw [Bool.or_eq_false_iff, decide_eq_false_iff_not, decide_eq_false_iff_not] at h
  omega
theorem tm_l0 {z : Int} {t : List vB} (h : (decide (z < 0) || decide (64 < z)) = false) (h1 : t.length = 0) : tmC z t = 1 ∧ tmL z t = [] := by
  have e := tm_2 (zb_f h) h1
  exact ⟨e, tm_n (by rw [e]; decide)⟩
theorem tm_lb {z : Int} {t : List vB} (h : (decide (z < 0) || decide (64 < z)) = false) (h1 : 400 < t.length) : tmC z t = 3 ∧ tmL z t = [] := by
  have e := tm_3 (zb_f h) (by omega) h1
  exact ⟨e, tm_n (by rw [e]; decide)⟩
theorem TmR.bad {z : Int} {t : List vB} {k : Nat} (h : TmR z t k) (hb : badB (t.getD k tz) = true) : tmC z t = 1 ∧ tmL z t = [] := by
  have e := nd_1 (z := z) (ss := szU t k) (badB_iff.1 hb)
  have := tm_no h.z0 h.kl h.tl h.up (by rw [e]; decide)
  rwa [e] at this
theorem TmR.ord {z : Int} {t : List vB} {k : Nat} (h : TmR z t k) (hb : badB (t.getD k tz) = false) (ho : ordB ((k : Nat) : Int) (t.getD k tz) = true) : tmC z t = 5 ∧ tmL z t = [] := by
  have e := nd_5 (z := z) (ss := szU t k) (not_of badB_iff hb) (by rw [aC]; exact ordB_iff.1 ho)
  have := tm_no h.z0 h.kl h.tl h.up (by rw [e]; decide)
  rwa [e] at this
theorem TmR.rng {z : Int} {t : List vB} {k : Nat} (h : TmR z t k) (hb : badB (t.getD k tz) = false) (ho : ordB ((k : Nat) : Int) (t.getD k tz) = false) (hr : rngB z (t.getD k tz) = true) : tmC z t = 2 ∧ tmL z t = [] := by
  have e := nd_2 (z := z) (ss := szU t k) (not_of badB_iff hb) (by rw [aC]; exact not_of ordB_iff ho) (rngB_iff.1 hr)
  have := tm_no h.z0 h.kl h.tl h.up (by rw [e]; decide)
  rwa [e] at this
structure NdR (z : Int) (t : List vB) (k : Nat) : Prop where
  tm : TmR z t k
  bad : ¬ badN (t.getD k tz)
  ord : ¬ ordN ((k : Nat) : Int) (t.getD k tz)
  rng : ¬ rngN z (t.getD k tz)
theorem ndr {z : Int} {t : List vB} {k : Nat} (h : TmR z t k) (hb : badB (t.getD k tz) = false) (ho : ordB ((k : Nat) : Int) (t.getD k tz) = false) (hr : rngB z (t.getD k tz) = false) : NdR z t k := ⟨h, not_of badB_iff hb, not_of ordB_iff ho, not_of rngB_iff hr⟩
theorem NdR.big {z : Int} {t : List vB} {k : Nat} (h : NdR z t k) {v : Int} (hv : v = szN (szU t k) (t.getD k tz)) {o : List Int} (ho : k < o.length) (hb : 4096 < (o.set k v).getD k 0) : tmC z t = 3 ∧ tmL z t = [] := by
  rw [set_getD ho, hv] at hb
  have e := nd_3 (z := z) (ss := szU t k) h.bad (by rw [aC]; exact h.ord) h.rng hb
  have := tm_no h.tm.z0 h.tm.kl h.tm.tl h.tm.up (by rw [e]; decide)
  rwa [e] at this
theorem NdR.next {z : Int} {t : List vB} {k : Nat} (h : NdR z t k) {v : Int} (hv : v = szN (szU t k) (t.getD k tz)) {o : List Int} (ho : szI t k o) (hb : ¬ 4096 < (o.set k v).getD k 0) : k + 1 ≤ t.length ∧ szI t (k + 1) (o.set k v) ∧ szUp z t (k + 1) := by
  have hl := ho.1
  have hk := h.tm.kl
  rw [set_getD (by omega), hv] at hb
  exact ⟨hk, ho.put hk hv, szUp_s h.tm.up (nd_y h.bad (by rw [aC]; exact h.ord) h.rng hb)⟩
theorem NdR.kd {z : Int} {t : List vB} {k : Nat} (h : NdR z t k) : 0 ≤ cH (t.getD k tz).op := by
  have := h.bad; unfold badN at this; omega
theorem NdR.a {z : Int} {t : List vB} {k : Nat} (h : NdR z t k) {o : List Int} (ho : szI t k o) (h0 : cH (t.getD k tz).op ≠ 0) :
    0 ≤ (t.getD k tz).a ∧ (t.getD k tz).a.toNat < k ∧ o.getD (t.getD k tz).a.toNat 0 = (szU t k).getD (t.getD k tz).a.toNat 0 ∧ 1 ≤ o.getD (t.getD k tz).a.toNat 0 ∧ o.getD (t.getD k tz).a.toNat 0 ≤ 4096 := by
  have h1 := h.kd
  have h2 := h.ord
  unfold ordN at h2
  have ha : (t.getD k tz).a.toNat < k := by omega
  have e := ho.at ha (by have := h.tm.kl; omega)
  have r := sz_rng h.tm.up _ ha
  rw [← e] at r
  exact ⟨by omega, ha, e, r⟩
theorem NdR.b {z : Int} {t : List vB} {k : Nat} (h : NdR z t k) {o : List Int} (ho : szI t k o) (h0 : cH (t.getD k tz).op ≠ 0) (h6 : (t.getD k tz).op ≠ 6) (h7 : (t.getD k tz).op ≠ 7) :
    0 ≤ (t.getD k tz).b ∧ (t.getD k tz).b.toNat < k ∧ o.getD (t.getD k tz).b.toNat 0 = (szU t k).getD (t.getD k tz).b.toNat 0 ∧ 1 ≤ o.getD (t.getD k tz).b.toNat 0 ∧ o.getD (t.getD k tz).b.toNat 0 ≤ 4096 := by
  have h1 := h.kd
  have h2 := h.ord
  have h3 : cH (t.getD k tz).op = 2 := by rcases kd_cases (t.getD k tz).op with ⟨a, b⟩ | ⟨a, b⟩ | ⟨a, b⟩ | ⟨a, b⟩ <;> omega
  unfold ordN at h2
  have ha : (t.getD k tz).b.toNat < k := by omega
  have e := ho.at ha (by have := h.tm.kl; omega)
  have r := sz_rng h.tm.up _ ha
  rw [← e] at r
  exact ⟨by omega, ha, e, r⟩
theorem szN_c {ss : List Int} {x : vB} (h : cH x.op = 0) : (1 : Int) = szN ss x := (if_pos h).symm
theorem szN_n {ss : List Int} {x : vB} {v : Int} (h : cH x.op ≠ 0) (h6 : x.op = 6) (hv : v = ss.getD x.a.toNat 0) : v = szN ss x := by
  unfold szN; rw [if_neg h, if_pos h6, hv]
theorem szN_q {ss : List Int} {x : vB} {v : Int} (h : cH x.op ≠ 0) (h7 : x.op = 7) (hv : v = ss.getD x.a.toNat 0) : 2 * v = szN ss x := by
  unfold szN; rw [if_neg h, if_neg (by omega), if_pos h7, hv]
theorem szN_b {ss : List Int} {x : vB} {v w : Int} (h : cH x.op ≠ 0) (h6 : x.op ≠ 6) (h7 : x.op ≠ 7) (hv : v = ss.getD x.a.toNat 0) (hw : w = ss.getD x.b.toNat 0) : v + w = szN ss x := by
  unfold szN; rw [if_neg h, if_neg h6, if_neg h7, hv, hw]
theorem tm_end {z : Int} {t : List vB} {k : Nat} {o : List Int} (h : (decide (z < 0) || decide (64 < z)) = false) (h0 : ((t.length : Nat) : Int) ≠ 0) (h4 : ¬ 400 < ((t.length : Nat) : Int)) (hk : k ≤ t.length) (h5 : ¬ ((k : Nat) : Int) < ((t.length : Nat) : Int)) (ho : szI t k o) (hu : szUp z t k) : tmC z t = 0 ∧ tmL z t = o := by
  obtain rfl : k = t.length := by omega
  obtain ⟨e1, e2⟩ := tm_yes (zb_f h) (by omega) (by omega) hu
  exact ⟨e1, by rw [e2, szI_end ho]⟩
inductive NdOk (n : Nat) (L : List JV) : vB → Prop
  | c {p : Rat} (hp : QL p 1048576) : NdOk n L ⟨0, 0, 0, jS p⟩
  | v {a : Nat} (ha : a < n) : NdOk n L ⟨1, (a : Int), 0, zr⟩
  | add {a b : Nat} (ha : a < L.length) (hb : b < L.length) : NdOk n L ⟨2, (a : Int), (b : Int), zr⟩
  | sub {a b : Nat} (ha : a < L.length) (hb : b < L.length) : NdOk n L ⟨3, (a : Int), (b : Int), zr⟩
  | mul {a b : Nat} (ha : a < L.length) (hb : b < L.length) : NdOk n L ⟨4, (a : Int), (b : Int), zr⟩
  | div {a b : Nat} (ha : a < L.length) (hb : b < L.length) (hz : cJ (L.getD b jz).v.1 (L.getD b jz).v.2 = false) : NdOk n L ⟨5, (a : Int), (b : Int), zr⟩
  | neg {a : Nat} (ha : a < L.length) : NdOk n L ⟨6, (a : Int), 0, zr⟩
  | sq {a : Nat} (ha : a < L.length) : NdOk n L ⟨7, (a : Int), 0, zr⟩
theorem nat_of {a : Int} (h : 0 ≤ a) : ∃ m : Nat, a = (m : Int) := ⟨a.toNat, by omega⟩
theorem nd_ok {bx : List R2} {t : List vB} {k : Nat} {ss : List Int} (h : ndC ((bx.length : Nat) : Int) ss (t.getD k tz) = 0) (hs : ss.length = k) (hq : yT (t.getD k tz).n (kH (t.getD k tz).n) 1048576)
    (hz : (t.getD k tz).op = 5 → cJ (jA (jU bx t k) (t.getD k tz).b).v.1 (jA (jU bx t k) (t.getD k tz).b).v.2 = false) : NdOk bx.length (jU bx t k) (t.getD k tz) := by
  obtain ⟨h1, h2, h3, _⟩ := nd_0 h
  have hl := jU_len bx t k
  rw [hs] at h2
  generalize t.getD k tz = x at *
  generalize jU bx t k = L at *
  obtain ⟨op, a, b, n⟩ := x
  unfold badN at h1
  unfold ordN at h2
  unfold rngN at h3
  dsimp only at *
  have hu : op ≠ 0 → n = zr := fun h => uns_eq (by
    cases hh : unsB n with
    | true => rfl
    | false => exact absurd (Or.inr (Or.inr (Or.inr ⟨h, hh⟩))) h1)
  rcases kd_cases op with ⟨e, f⟩ | ⟨e, f⟩ | ⟨e, f⟩ | ⟨e, f⟩
  · have hb : b = 0 := by omega
    subst hb
    rcases f with f | f
    · subst f
      have ha : a = 0 := by omega
      subst ha
      have hv : jX n = true := by
        cases hh : jX n with
        | true => rfl
        | false => exact absurd (Or.inr (Or.inr (Or.inl ⟨rfl, Or.inr hh⟩))) h1
      rw [← ofQ_toQ hv] at hq ⊢
      rw [nK] at hq
      exact .c (hq.ql)
    · subst f
      obtain ⟨m, hm⟩ := nat_of (a := a) (by omega)
      subst hm
      rw [hu (by decide)]
      exact .v (by omega)
  · have hb : b = 0 := by omega
    subst hb
    obtain ⟨m, hm⟩ := nat_of (a := a) (by omega)
    subst hm
    rw [hu (by omega)]
    rcases f with f | f <;> subst f
    · exact .neg (by omega)
    · exact .sq (by omega)
  · obtain ⟨m, hm⟩ := nat_of (a := a) (by omega)
    subst hm
    obtain ⟨l, hl'⟩ := nat_of (a := b) (by omega)
    subst hl'
    rw [hu (by omega)]
    rcases f with f | f | f | f <;> subst f
    · exact .add (by omega) (by omega)
    · exact .sub (by omega) (by omega)
    · exact .mul (by omega) (by omega)
    · refine .div (by omega) (by omega) ?_
      have := hz rfl
      unfold jA at this
      rwa [Int.toNat_natCast] at this
  · omega
structure aS (bx : List R2) (t : List vB) : Prop where
  c0 : tmC ((bx.length : Nat) : Int) t = 0
  ok : ∀ k, k < t.length → mG 1048576 bx.length (nJ bx (jU bx t k) (t.getD k tz))
  dz : ∀ k, k < t.length → (t.getD k tz).op = 5 → cJ (jA (jU bx t k) (t.getD k tz).b).v.1 (jA (jU bx t k) (t.getD k tz).b).v.2 = false
theorem aS.upto {bx : List R2} {t : List vB} (h : aS bx t) : ∀ {k}, k ≤ t.length → ∀ y ∈ jU bx t k, mG 1048576 bx.length y
  | 0, _, y, hy => by simp [jU] at hy
  | k + 1, hk, y, hy => by
    rw [jU, List.mem_append] at hy
    rcases hy with hy | hy
    · exact h.upto (by omega) y hy
    · rw [List.mem_singleton] at hy; subst hy
      exact h.ok k (by omega)
theorem aS.nd {bx : List R2} {t : List vB} (h : aS bx t) (hq : ∀ x ∈ t, yT x.n (kH x.n) 1048576) {k : Nat} (hk : k < t.length) : NdOk bx.length (jU bx t k) (t.getD k tz) := by
  have h0 := tm_0 h.c0
  refine nd_ok (h0.2.2.2.2 k hk) (aC t k) ?_ (h.dz k hk)
  rw [List.getD_eq_getElem?_getD, List.getElem?_eq_getElem hk]; exact hq _ (List.getElem_mem _)
def gU (bx : List R2) (t : List vB) : JV := (jU bx t t.length).getD (t.length - 1) jz
theorem aS.last {bx : List R2} {t : List vB} (h : aS bx t) : mG 1048576 bx.length (gU bx t) := by
  have h0 := tm_0 h.c0
  have hl := jU_len bx t t.length
  unfold gU
  rw [List.getD_eq_getElem?_getD, List.getElem?_eq_getElem (by omega)]
  exact h.upto (Nat.le_refl _) _ (List.getElem_mem _)
end Go.Fid
set_option linter.unusedVariables false
set_option linter.unusedSimpArgs false
namespace Go.Proofs.YtnajallgoaiahaaGreatDoor
open Go.Fid
def fR {α : Type} (f : α → Bool) : List α → Nat → Int
  | [], _ => -1
  | x :: r, i => bif f x then ((i : Nat) : Int) else fR f r (i + 1)
theorem fst0_step {α : Type} (f : α → Bool) (d : α) (l : List α) (k : Nat) (h : k < l.length) (hf : f (l.getD k d) = false) : fR f (l.drop k) k = fR f (l.drop (k + 1)) (k + 1) := by
  rw [List.drop_eq_getElem_cons h, fR, show f l[k] = false by rw [← hf, List.getD_eq_getElem?_getD, List.getElem?_eq_getElem h]; rfl]; rfl
theorem fst0_at {α : Type} (f : α → Bool) (d : α) (l : List α) (k : Nat) (h : k < l.length) (hf : f (l.getD k d) = true) : fR f (l.drop k) k = ((k : Nat) : Int) := by
  rw [List.drop_eq_getElem_cons h, fR, show f l[k] = true by rw [← hf, List.getD_eq_getElem?_getD, List.getElem?_eq_getElem h]; rfl]; rfl
theorem fst0_end {α : Type} (f : α → Bool) (l : List α) (k : Nat) (h : l.length ≤ k) : fR f (l.drop k) k = -1 := by rw [List.drop_eq_nil_of_le h]; rfl
theorem fst0_any {α : Type} (f : α → Bool) : ∀ (l : List α) (i : Nat), decide (0 ≤ fR f l i) = l.any f
  | [], i => by simp [fR]
  | x :: r, i => by
    rw [fR, List.any_cons]
    cases f x
    · rw [Bool.false_or, cond_false]; exact fst0_any f r (i + 1)
    · rw [Bool.true_or, cond_true, decide_eq_true_eq]; omega
theorem vRow_any (l : List jJ) : (!(l.any (fun x => !(jX x)))) = cN l := by
  unfold cN
  rw [List.all_eq_not_any_not]
def gI (m : List (List jJ)) (l : List jJ) : Bool := (((l.length : Nat) : Int) != (((m.getD 0 []).length : Nat) : Int)) || !(cN l)
def shpB (m : List (List jJ)) : Bool := (((decide (((m.length : Nat) : Int) < 1) || decide (64 < ((m.length : Nat) : Int))) || decide ((((m.getD 0 []).length : Nat) : Int) < 1)) || decide (64 < (((m.getD 0 []).length : Nat) : Int)))
def mchk (m : List (List jJ)) : Nat := bif shpB m || m.any (gI m) then 1 else 0
theorem shp_0 {m : List (List jJ)} (h : shpB m = false) : 0 < m.length := by
  unfold shpB at h
  simp only [Bool.or_eq_false_iff, decide_eq_false_iff_not] at h
  omega
theorem mchk_1 {m : List (List jJ)} (h : shpB m = true) : mchk m = 1 := by unfold mchk; rw [h]; rfl
theorem mchk_2 {m : List (List jJ)} (h : m.any (gI m) = true) : mchk m = 1 := by unfold mchk; rw [h, Bool.or_true]; rfl
theorem mchk_3 {m : List (List jJ)} (h1 : shpB m = false) (h : m.any (gI m) = false) : mchk m = 0 := by unfold mchk; rw [h, h1]; rfl
structure dU (m : List (List jJ)) (r c : Nat) : Prop where
  hr : m.length = r
  hc : ∀ l ∈ m, l.length = c ∧ cN l = true
  r1 : 1 ≤ r
  r64 : r ≤ 64
  c1 : 1 ≤ c
  c64 : c ≤ 64
theorem mchk_rect {m : List (List jJ)} (h : mchk m = 0) : dU m m.length (m.getD 0 []).length := by
  unfold mchk at h
  cases hb : shpB m || m.any (gI m) with
  | true => rw [hb] at h; cases h
  | false =>
    rw [Bool.or_eq_false_iff] at hb
    obtain ⟨h1, h2⟩ := hb
    unfold shpB at h1
    simp only [Bool.or_eq_false_iff, decide_eq_false_iff_not] at h1
    refine ⟨rfl, fun l hl => ?_, by omega, by omega, by omega, by omega⟩
    have h3 := List.any_eq_false.1 h2 l hl
    unfold gI at h3
    rw [Bool.not_eq_true, Bool.or_eq_false_iff, Bool.not_eq_false', bne_eq_false_iff_eq] at h3
    exact ⟨by omega, h3.2⟩
theorem dU.at {m : List (List jJ)} {r c : Nat} (h : dU m r c) {i : Nat} (hi : i < r) : (m.getD i []).length = c ∧ cN (m.getD i []) = true := by
  have := h.hr
  rw [List.getD_eq_getElem?_getD, List.getElem?_eq_getElem (by omega)]; exact h.hc _ (List.getElem_mem _)
theorem toQ_zr : kH zr = 0 := by unfold kH; rw [if_neg (by decide)]
def dotT (l m : List jJ) : Nat → Rat
  | 0 => 0
  | i + 1 => dotT l m i + kH (l.getD i zr) * kH (m.getD i zr)
def dotR (l m : List jJ) : Rat := dotT l m l.length
theorem dotT_skip {l m : List jJ} {i : Nat} (h : kH (l.getD i zr) = 0 ∨ kH (m.getD i zr) = 0) : dotT l m i = dotT l m (i + 1) := by
  rw [dotT]
  rcases h with h | h <;> rw [h] <;> grind
theorem row_ql {l : List jJ} {n j : Nat} (h : yI n l) (hn : 1 ≤ n) : QL (kH (l.getD j zr)) n := by
  rcases Nat.lt_or_ge j l.length with hj | hj
  · exact (xI h.1 hj).ql
  · rw [List.getD_eq_getElem?_getD, List.getElem?_eq_none (by omega)]
    show QL (kH zr) n
    rw [toQ_zr]
    exact zI eO hn
theorem dotT_ql {l m : List jJ} {a b : Nat} (hl : yI a l) (hm : yI b m) (ha : 1 ≤ a) (hb : 1 ≤ b) : ∀ i, QL (dotT l m i) (i * (a + b + 1) + 1)
  | 0 => zI eO (by omega)
  | i + 1 => by
    rw [dotT]
    exact mX (dotT_ql hl hm ha hb i) (qQ (row_ql hl ha) (row_ql hm hb) (Nat.le_refl _)) (by rw [Nat.add_mul]; omega)
theorem dot_ql1 {l m : List jJ} {i : Nat} (hl : yI 1048576 l) (hm : yI 1048576 m) (hi : i ≤ 64) : QL (dotT l m i) 134217800 :=
  zI (dotT_ql hl hm (by decide) (by decide) i) (Nat.le_trans (Nat.add_le_add_right (Nat.mul_le_mul_right _ hi) 1) (by decide))
theorem dot_ql2 {l m : List jJ} {i : Nat} (hl : yI 1048576 l) (hm : yI 134217800 m) (hi : i ≤ 64) : QL (dotT l m i) 8800000000 :=
  zI (dotT_ql hl hm (by decide) (by decide) i) (Nat.le_trans (Nat.add_le_add_right (Nat.mul_le_mul_right _ hi) 1) (by decide))
def appR (m : List (List jJ)) (v : List jJ) : List jJ := m.map fun r => jS (dotR r v)
theorem appR_len (m : List (List jJ)) (v : List jJ) : (appR m v).length = m.length := List.length_map _
theorem appR_step {m : List (List jJ)} {v : List jJ} {i : Nat} (h : i < m.length) : (m.take i).map (fun r => jS (dotR r v)) ++ [jS (dotR (m.getD i []) v)] = (m.take (i + 1)).map (fun r => jS (dotR r v)) := by
  rw [List.take_succ_eq_append_getElem h, List.map_append, List.getD_eq_getElem?_getD, List.getElem?_eq_getElem h]; rfl
theorem appR_ok {m : List (List jJ)} {v : List jJ} (hm : nD 1048576 m) (hv : yI 1048576 v) (hr : ∀ l ∈ m, l.length ≤ 64) : yI 134217800 (appR m v) := by
  refine ⟨fun a ha => ?_, by rw [appR_len]; exact hm.2⟩
  obtain ⟨r, h1, rfl⟩ := List.mem_map.1 ha
  rw [nK]
  exact kM (dot_ql1 (hm.1 r h1) hv (hr r h1))
def covR (q : List (List jJ)) (a b : List jJ) : Rat := dotR a (appR q b)
def eqM (m : List (List jJ)) (i j : Nat) : Bool := decide (kH ((m.getD i []).getD j zr) = kH ((m.getD j []).getD i zr))
def symB (m : List (List jJ)) : Bool := (List.range m.length).all fun i => (List.range i).all fun j => eqM m i j
def symI (m : List (List jJ)) (k : Nat) : Prop := ∀ i, i < k → ∀ j, j < i → eqM m i j = true
theorem symI_0 (m : List (List jJ)) : symI m 0 := fun i h => by omega
theorem symI_s {m : List (List jJ)} {k : Nat} (h : symI m k) (h2 : ∀ j, j < k → eqM m k j = true) : symI m (k + 1) := fun i hi j hj => by
  rcases Nat.lt_or_ge i k with h3 | h3
  · exact h i h3 j hj
  · obtain rfl : i = k := by omega
    exact h2 j hj
theorem sym_no {m : List (List jJ)} {i j : Nat} (hi : i < m.length) (hj : j < i) (h : eqM m i j = false) : symB m = false := by
  cases hb : symB m with
  | false => rfl
  | true =>
    have := List.all_eq_true.1 (List.all_eq_true.1 hb i (List.mem_range.2 hi)) j (List.mem_range.2 hj)
    rw [h] at this; cases this
theorem sym_yes {m : List (List jJ)} (h : symI m m.length) : symB m = true := by
  unfold symB
  rw [List.all_eq_true]; intro i hi
  rw [List.all_eq_true]; intro j hj
  exact h i (List.mem_range.1 hi) j (List.mem_range.1 hj)
def fitC (m : List (List jJ)) (n : Nat) : Nat := if m.length ≠ n ∨ (m.getD 0 []).length ≠ n then 4 else bif symB m then 0 else 11
theorem fit_1 {m : List (List jJ)} {n : Nat} (h : (((((m.length : Nat) : Int) != ((n : Nat) : Int)) || ((((m.getD 0 []).length : Nat) : Int) != ((n : Nat) : Int)))) = true) : fitC m n = 4 := by
  rw [Bool.or_eq_true, bne_iff_ne, bne_iff_ne] at h
  exact if_pos (by omega)
theorem fit_0 {m : List (List jJ)} {n : Nat} (h : (((((m.length : Nat) : Int) != ((n : Nat) : Int)) || ((((m.getD 0 []).length : Nat) : Int) != ((n : Nat) : Int)))) = false) : m.length = n ∧ (m.getD 0 []).length = n := by
  rw [Bool.or_eq_false_iff, bne_eq_false_iff_eq, bne_eq_false_iff_eq] at h
  omega
theorem fit_11 {m : List (List jJ)} {n : Nat} (h : m.length = n ∧ (m.getD 0 []).length = n) (hs : symB m = false) : fitC m n = 11 := by
  unfold fitC; rw [if_neg (by omega), hs]; rfl
theorem fit_ok {m : List (List jJ)} {n : Nat} (h : m.length = n ∧ (m.getD 0 []).length = n) (hs : symB m = true) : fitC m n = 0 := by
  unfold fitC; rw [if_neg (by omega), hs]; rfl
theorem fit_of {m : List (List jJ)} {n : Nat} (h : fitC m n = 0) : m.length = n ∧ (m.getD 0 []).length = n ∧ symB m = true := by
  unfold fitC at h
  split at h
  · cases h
  · rename_i h1
    cases hs : symB m with
    | false => rw [hs] at h; cases h
    | true => exact ⟨by omega, by omega, rfl⟩
def gE (xs : List Rat) (t : List vB) : List jJ := (gU (xs.map gX) t).g.map fun y => jS y.1
def tabR (q : List (List jJ)) (gs : List (List jJ)) : List (List jJ) := gs.map fun a => gs.map fun b => jS (covR q a b)
theorem gr_step {G : List R2} {i : Nat} (h : i < G.length) : (G.take i).map (fun y => jS y.1) ++ [jS (G.getD i z2).1] = (G.take (i + 1)).map (fun y => jS y.1) := by
  rw [List.take_succ_eq_append_getElem h, List.map_append, List.getD_eq_getElem?_getD, List.getElem?_eq_getElem h]; rfl
theorem grQ_len {xs : List Rat} {t : List vB} (h : aS (xs.map gX) t) : (gE xs t).length = xs.length := by
  unfold gE
  rw [List.length_map, h.last.2.2, List.length_map]
theorem grQ_ok {xs : List Rat} {t : List vB} (h : aS (xs.map gX) t) : yI 1048576 (gE xs t) := by
  have hl := h.last
  refine ⟨fun a ha => ?_, ?_⟩
  · unfold gE at ha
    obtain ⟨y, hy, rfl⟩ := List.mem_map.1 ha
    rw [nK]
    exact kM (hl.2.1 y hy).1
  · rw [grQ_len h]
    have := (tm_0 h.c0).2.1
    rw [List.length_map] at this; omega
theorem grQ_v {xs : List Rat} {t : List vB} : cN (gE xs t) = true := by
  unfold cN gE
  rw [List.all_eq_true]
  intro a ha
  obtain ⟨r, h1, rfl⟩ := List.mem_map.1 ha
  exact mE _
theorem dot_sk {a b : Rat} (h : ((vT a != 0) && (vT b != 0)) = false) : a = 0 ∨ b = 0 := by
  rw [Bool.and_eq_false_iff, bne_eq_false_iff_eq, bne_eq_false_iff_eq] at h
  rcases h with h | h
  · exact .inl (dW.1 h)
  · exact .inr (dW.1 h)
theorem mcol_le {m : List (List jJ)} {v : List jJ} (h : ∀ r ∈ m, r.length = v.length) (hv : v.length ≤ 64) : ∀ r ∈ m, r.length ≤ 64 := fun r hr => by have := h r hr; omega
theorem mcol_at {m : List (List jJ)} {v : List jJ} (h : ∀ r ∈ m, r.length = v.length) {i : Nat} (hi : i < m.length) : (m.getD i []).length = v.length := by
  rw [List.getD_eq_getElem?_getD, List.getElem?_eq_getElem hi]; exact h _ (List.getElem_mem _)
theorem rect_chk {m : List (List jJ)} {r c : Nat} (h : dU m r c) : mchk m = 0 := by
  have h1 := h.hr; have h2 := h.r1; have h3 := h.r64; have h4 := h.c1; have h5 := h.c64
  have h0 := (h.at (i := 0) h2).1
  refine mchk_3 ?_ ?_
  · unfold shpB
    simp only [Bool.or_eq_false_iff, decide_eq_false_iff_not]
    omega
  · rw [List.any_eq_false]
    intro l hl
    obtain ⟨q1, q2⟩ := h.hc l hl
    unfold gI
    rw [Bool.not_eq_true, Bool.or_eq_false_iff, Bool.not_eq_false', bne_eq_false_iff_eq]
    exact ⟨by omega, q2⟩
theorem ql_getD {xs : List Rat} {n : Nat} (h : ∀ q ∈ xs, QL q n) (h1 : 1 ≤ n) (j : Nat) : QL (xs.getD j 0) n := by
  rcases Nat.lt_or_ge j xs.length with hj | hj
  · rw [List.getD_eq_getElem?_getD, List.getElem?_eq_getElem hj]; exact h _ (List.getElem_mem _)
  · rw [List.getD_eq_getElem?_getD, List.getElem?_eq_none (by omega)]; exact zI eO h1
theorem pts_row {xs : List Rat} {n : Nat} (h : ∀ q ∈ xs, QL q n) (hl : xs.length ≤ 1000000) : yI n (List.map jS xs) := by
  refine ⟨fun a ha => ?_, by rw [List.length_map]; omega⟩
  obtain ⟨q, hq, rfl⟩ := List.mem_map.1 ha
  rw [nK]; exact kM (h q hq)
theorem pts_gl {xs : List Rat} {n : Nat} (h : ∀ q ∈ xs, QL q n) : ∀ y ∈ List.map gX xs, GL n y := fun y hy => by
  obtain ⟨q, hq, rfl⟩ := List.mem_map.1 hy
  exact gl_pt (h q hq)
theorem fX {α β : Type} {f : α → β} {l : List α} {d : α} {i : Nat} (h : i < l.length) : (l.take i).map f ++ [f (l.getD i d)] = (l.take (i + 1)).map f := by
  rw [List.take_succ_eq_append_getElem h, List.map_append, List.getD_eq_getElem?_getD, List.getElem?_eq_getElem h]; rfl
theorem cmpQ_zero {a b : Rat} : yE a b = 0 ↔ a = b := by
  rw [← signQ_sub]
  show uB (a - b).num = 0 ↔ _
  rw [dW]
  constructor
  · intro h; grind
  · intro h; grind
theorem eqm_s {m : List (List jJ)} {i j : Nat} (h : ∀ b, b < j → eqM m i b = true) (hc : yE (kH ((m.getD i []).getD j zr)) (kH ((m.getD j []).getD i zr)) = 0) : ∀ b, b < j + 1 → eqM m i b = true := fun b hb => by
  rcases Nat.lt_or_ge b j with h1 | h1
  · exact h b h1
  · obtain rfl : b = j := by omega
    exact decide_eq_true (cmpQ_zero.1 hc)
theorem eqm_f {m : List (List jJ)} {i j : Nat} (hc : yE (kH ((m.getD i []).getD j zr)) (kH ((m.getD j []).getD i zr)) ≠ 0) : eqM m i j = false := decide_eq_false fun h => hc (cmpQ_zero.2 h)
theorem tms_at {N : Nat} {ts : List (List vB)} (h : ∀ t ∈ ts, ∀ x ∈ t, yT x.n (kH x.n) N) (i : Nat) : ∀ x ∈ ts.getD i [], yT x.n (kH x.n) N := by
  rcases Nat.lt_or_ge i ts.length with hj | hj
  · rw [List.getD_eq_getElem?_getD, List.getElem?_eq_getElem hj]; exact h _ (List.getElem_mem _)
  · rw [List.getD_eq_getElem?_getD, List.getElem?_eq_none (by omega)]; intro x hx; simp at hx
theorem tms_one {N : Nat} {t : List vB} (h : ∀ x ∈ t, yT x.n (kH x.n) N) : ∀ u ∈ [t], ∀ x ∈ u, yT x.n (kH x.n) N := fun u hu => by
  rw [List.mem_singleton] at hu; subst hu; exact h
theorem tms_jr {bx : List R2} {ts : List (List vB)} (h : ∀ t ∈ ts, aS bx t) {i : Nat} (hi : i < ts.length) : aS bx (ts.getD i []) := by
  rw [List.getD_eq_getElem?_getD, List.getElem?_eq_getElem hi]; exact h _ (List.getElem_mem _)
theorem tms_c0 {xs : List Rat} {ts : List (List vB)} (h : ∀ t ∈ ts, aS (List.map gX xs) t) {i : Nat} (hi : i < ts.length) : tmC ((xs.length : Nat) : Int) (ts.getD i []) = 0 := by
  have := (tms_jr h hi).c0
  rwa [List.length_map] at this
theorem grs_ok {xs : List Rat} {ts : List (List vB)} (h : ∀ t ∈ ts, aS (List.map gX xs) t) (hl : ts.length ≤ 64) : nD 1048576 (List.map (gE xs) ts) := by
  refine ⟨fun r hr => ?_, by rw [List.length_map]; omega⟩
  obtain ⟨t, ht, rfl⟩ := List.mem_map.1 hr
  exact grQ_ok (h t ht)
theorem rect_0 {m : List (List jJ)} {r c : Nat} (h : dU m r c) : dU m m.length (m.getD 0 []).length := by
  have h1 := h.hr
  have h0 := (h.at (i := 0) h.r1).1
  rw [h0]
  exact ⟨rfl, h.hc, by have := h.r1; omega, by have := h.r64; omega, h.c1, h.c64⟩
theorem grs_at {xs : List Rat} {ts : List (List vB)} (h : ∀ t ∈ ts, aS (List.map gX xs) t) {i : Nat} (hi : i < (List.map (gE xs) ts).length) : ((List.map (gE xs) ts).getD i []).length = xs.length ∧ cN ((List.map (gE xs) ts).getD i []) = true := by
  rw [List.length_map] at hi
  rw [List.getD_eq_getElem?_getD, List.getElem?_map, List.getElem?_eq_getElem hi]
  exact ⟨grQ_len (h _ (List.getElem_mem _)), grQ_v⟩
theorem one_of {α : Type} {P : α → Prop} {x : α} (h : P x) : ∀ u ∈ [x], P u := fun u hu => by rw [List.mem_singleton] at hu; subst hu; exact h
theorem sq2_nn (a b : Rat) : 0 ≤ a * a + b * b := Rat.add_nonneg (rat_sq a) (rat_sq b)
end Go.Proofs.YtnajallgoaiahaaGreatDoor
