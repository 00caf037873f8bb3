/- Part 21 of a proof: rules, plain facts, and functions walked. -/
import Derived.Test.YtnajallgoaiahaaGreatDoorM20
import Derived.Test.YtnajallgoaiahaaGreatDoorM12
import Derived.Test.YtnajallgoaiahaaGreatDoorM10
import Derived.Test.YtnajallgoaiahaaGreatDoorM11
namespace Go.Proofs.YtnajallgoaiahaaGreatDoor
open Go.Fid
set_option maxRecDepth 4000
set_option linter.unusedVariables false
set_option linter.unusedSimpArgs false
theorem cb39 : callB Tryz.prog 39 = true := by kernel_rfl
theorem cb40 : callB Tryz.prog 40 = true := by kernel_rfl
theorem cb100 : callB Tryz.prog 100 = true := by kernel_rfl
theorem h_neg (a : kG) (p : Rat) (q : Rat) (hp : hH a.lo p 4294967296) (hq : hH a.hi q 4294967296) : jV Tryz.prog 100 [(jO a)] (jO (kG.mk (jT (-q)) (jT (-p)))) := by
 refine jJ Tryz.func100 rfl cb100 rfl ?_
 show qI _ _ _ _ ⟨[(0, (.d (jO a)))], []⟩
 refine jB <| kx [(1, (.ref 0 0)), (2, (.ref 1 0))] [(0, some (bx (jO a))), (1, some (bx (jO (kG.mk (jE.mk (jD.mk false []) (jD.mk false [])) (jE.mk (jD.mk false []) (jD.mk false []))))))] (zN (vL 0) <| zN (qS 1 uO uY) <| zZ) ?_
 refine jB <| kd [] [(1, some (bx (jO (kG.mk (jT (-q)) (jT (-p))))))] mo (wE (qH xT) <| wR (kR jR) <| wE (jX (g_neg a.hi q (jP hq (by decide)))) <| wE (qH xL) <| wR (kR jR) <| wE (jX (g_neg a.lo p (jP hp (by decide)))) <| wE (eJ pl61 uO uY) <| wT (qC kZ) <| wZ) ?_
 refine jG ⟨_, (kU (cs := (bx (jO (kG.mk (jT (-q)) (jT (-p)))))) (d := (jO (kG.mk (jT (-q)) (jT (-p))))) rfl rfl kZ rfl rfl .nil), ?_⟩
 rfl
theorem h_add (a : kG) (p : Rat) (q : Rat) (hp : hH a.lo p 1073741824) (hq : hH a.hi q 1073741824) (b : kG) (r : Rat) (s : Rat) (hr : hH b.lo r 1073741824) (hs : hH b.hi s 1073741824) : jV Tryz.prog 39 [(jO a), (jO b)] (jO (kG.mk (jT (p + r)) (jT (q + s)))) := by
 refine jJ Tryz.func39 rfl cb39 rfl ?_
 show qI _ _ _ _ ⟨[(0, (.d (jO a))), (1, (.d (jO b)))], []⟩
 refine jB <| kx [(2, (.ref 0 0)), (3, (.ref 1 0)), (4, (.ref 2 0))] [(0, some (bx (jO a))), (1, some (bx (jO b))), (2, some (bx (jO (kG.mk (jE.mk (jD.mk false []) (jD.mk false [])) (jE.mk (jD.mk false []) (jD.mk false []))))))] (zN (vL 0) <| zN (vL 1) <| zN (qS 2 uO uY) <| zZ) ?_
 refine jB <| kd [] [(2, some (bx (jO (kG.mk (jT (p + r)) (jT (q + s))))))] mo (wE (qH xL) <| wR (kR jR) <| wE (qH xL) <| wR (kR jR) <| wE (jX (g_add a.lo b.lo p r (jP hp (by decide)) (jP hr (by decide)))) <| wE (qH xT) <| wR (kR jR) <| wE (qH xT) <| wR (kR jR) <| wE (jX (g_add a.hi b.hi q s (jP hq (by decide)) (jP hs (by decide)))) <| wE (eJ pl61 uO uY) <| wT (qC kZ) <| wZ) ?_
 refine jG ⟨_, (kU (cs := (bx (jO (kG.mk (jT (p + r)) (jT (q + s)))))) (d := (jO (kG.mk (jT (p + r)) (jT (q + s))))) rfl rfl kZ rfl rfl .nil), ?_⟩
 rfl
theorem h_sub (a : kG) (p : Rat) (q : Rat) (hp : hH a.lo p 1073741824) (hq : hH a.hi q 1073741824) (b : kG) (r : Rat) (s : Rat) (hr : hH b.lo r 1073741824) (hs : hH b.hi s 1073741824) : jV Tryz.prog 40 [(jO a), (jO b)] (jO (kG.mk (jT (p - s)) (jT (q - r)))) := by
 refine jJ Tryz.func40 rfl cb40 rfl ?_
 show qI _ _ _ _ ⟨[(0, (.d (jO a))), (1, (.d (jO b)))], []⟩
 refine jB <| kx [(2, (.ref 0 0)), (3, (.ref 1 0)), (4, (.ref 2 0))] [(0, some (bx (jO a))), (1, some (bx (jO b))), (2, some (bx (jO (kG.mk (jE.mk (jD.mk false []) (jD.mk false [])) (jE.mk (jD.mk false []) (jD.mk false []))))))] (zN (vL 0) <| zN (vL 1) <| zN (qS 2 uO uY) <| zZ) ?_
 refine jB <| kd [] [(2, some (bx (jO (kG.mk (jT (p + (-s))) (jT (q + (-r)))))))] mo (wR (kR kZ) <| wR (kR kZ) <| wE (jX (h_neg b r s (jP hr (by decide)) (jP hs (by decide)))) <| wE (jX (h_add a p q hp hq (kG.mk (jT (-s)) (jT (-r))) (-s) (-r) (kA (ql_neg hs.ql)) (kA (ql_neg hr.ql)))) <| wT (qC kZ) <| wZ) ?_
 refine jG ⟨_, (kU (cs := (bx (jO (kG.mk (jT (p + (-s))) (jT (q + (-r))))))) (d := (jO (kG.mk (jT (p + (-s))) (jT (q + (-r)))))) rfl rfl kZ rfl rfl .nil), ?_⟩
 rw [Rat.sub_eq_add_neg, Rat.sub_eq_add_neg]; rfl
end Go.Proofs.YtnajallgoaiahaaGreatDoor
set_option linter.unusedVariables false
set_option linter.unusedSimpArgs false
namespace Go.Fid
inductive LOk (n : Nat) : List jD → List Int → Prop
  | nil : LOk n [] []
  | cons {x : jD} {z : Int} {l : List jD} {zs : List Int} (h : vO x z n) (t : LOk n l zs) : LOk n (x :: l) (z :: zs)
theorem iok_nilN (n : Nat) : vO ⟨false, []⟩ 0 n := ⟨by decide, Nat.zero_le _⟩
theorem LOk.len {n : Nat} {l : List jD} {zs : List Int} (h : LOk n l zs) : l.length = zs.length := by
  induction h with
  | nil => rfl
  | cons h t ih => simp [ih]
theorem LOk.get {n : Nat} {l : List jD} {zs : List Int} (h : LOk n l zs) (i : Nat) : vO (l.getD i ⟨false, []⟩) (zs.getD i 0) n := by
  induction h generalizing i with
  | nil => exact iok_nilN n
  | cons h t ih =>
    rcases i with _ | i
    · exact h
    · exact ih i
theorem LOk.all {n : Nat} {l : List jD} {zs : List Int} (h : LOk n l zs) : ∀ z ∈ zs, gN z ≤ n := by
  induction h with
  | nil => simp
  | cons h t ih =>
    intro z hz
    rcases List.mem_cons.1 hz with rfl | hz
    · exact h.ln
    · exact ih z hz
theorem LOk.up {m n : Nat} {l : List jD} {zs : List Int} (h : LOk m l zs) (hm : m ≤ n) : LOk n l zs := by
  induction h with
  | nil => exact .nil
  | cons h t ih => exact .cons (yS h hm) ih
theorem signI_ne {z : Int} (h : z ≠ 0) : qY z ≠ 0 := by
  unfold qY; split <;> (try split) <;> omega
theorem LOk.map {n : Nat} {l : List jD} {zs : List Int} (h : LOk n l zs) : l.map jY = zs := by
  induction h with
  | nil => rfl
  | cons h t ih => rw [List.map_cons, ih, h.v]
theorem all_nil {l : List jD} (h : ∀ x ∈ l, x = jD.mk false []) (i : Nat) : l.getD i (jD.mk false []) = jD.mk false [] := by
  rw [List.getD]
  cases hj : l[i]? with
  | none => rfl
  | some q => exact h q (List.mem_of_getElem? hj)
end Go.Fid
namespace Go.Proofs.YtnajallgoaiahaaGreatDoor
open Go.Fid
def zG (n : Nat) (l : List jE) : Prop := (∀ a ∈ l, hH a (jN a) n) ∧ l.length ≤ 140737488355328
def vR (n : Nat) (m : List (List jE)) : Prop := (∀ r ∈ m, zG n r) ∧ m.length ≤ 140737488355328
def eT (l : List jE) : Bool := l.all kP
theorem qN {l : List jE} {n j : Nat} {d : jE} (h : ∀ a ∈ l, hH a (jN a) n) (hj : j < l.length) : hH (l.getD j d) (jN (l.getD j d)) n := by
  rw [List.getD_eq_getElem?_getD, List.getElem?_eq_getElem hj]; exact h _ (List.getElem_mem hj)
theorem row_up {n k : Nat} {l : List jE} (h : zG n l) (hk : n ≤ k) : zG k l := ⟨fun a ha => jP (h.1 a ha) hk, h.2⟩
theorem nW {n k : Nat} {m : List (List jE)} (h : vR n m) (hk : n ≤ k) : vR k m := ⟨fun a ha => row_up (h.1 a ha) hk, h.2⟩
theorem kO {n i : Nat} {m : List (List jE)} {d : List jE} (h : vR n m) (hi : i < m.length) : zG n (m.getD i d) := by
  rw [List.getD_eq_getElem?_getD, List.getElem?_eq_getElem hi]; exact h.1 _ (List.getElem_mem hi)
theorem valid_get {i : Nat} {l : List jE} {d : jE} (h : eT l = true) (hi : i < l.length) : kP (l.getD i d) = true := by
  rw [List.getD_eq_getElem?_getD, List.getElem?_eq_getElem hi]; exact List.all_eq_true.1 h _ (List.getElem_mem hi)
theorem take_all {α : Type} {f : α → Bool} {l : List α} {i : Nat} {d : α} (h : i < l.length) : (l.take (i + 1)).all f = ((l.take i).all f && f (l.getD i d)) := by
  rw [List.getD_eq_getElem?_getD, List.getElem?_eq_getElem h, List.take_succ_eq_append_getElem h, List.all_append]
  simp
end Go.Proofs.YtnajallgoaiahaaGreatDoor
set_option linter.unusedVariables false
set_option linter.unusedSimpArgs false
namespace Go.Fid
def cV (o : Int) : Int := if o = 0 ∨ o = 1 then 0 else if o = 6 ∨ o = 7 then 1 else if o = 2 ∨ o = 3 ∨ o = 4 ∨ o = 5 then 2 else -1
theorem kd_cases (o : Int) : (cV o = 0 ∧ (o = 0 ∨ o = 1)) ∨ (cV o = 1 ∧ (o = 6 ∨ o = 7)) ∨ (cV o = 2 ∧ (o = 2 ∨ o = 3 ∨ o = 4 ∨ o = 5)) ∨ (cV o = -1 ∧ ¬ (o = 0 ∨ o = 1) ∧ ¬ (o = 6 ∨ o = 7) ∧ ¬ (o = 2 ∨ o = 3 ∨ o = 4 ∨ o = 5)) := by
  unfold cV
  by_cases h1 : o = 0 ∨ o = 1
  · exact .inl ⟨if_pos h1, h1⟩
  by_cases h2 : o = 6 ∨ o = 7
  · exact .inr (.inl ⟨by rw [if_neg h1, if_pos h2], h2⟩)
  by_cases h3 : o = 2 ∨ o = 3 ∨ o = 4 ∨ o = 5
  · exact .inr (.inr (.inl ⟨by rw [if_neg h1, if_neg h2, if_pos h3], h3⟩))
  · exact .inr (.inr (.inr ⟨by rw [if_neg h1, if_neg h2, if_neg h3], h1, h2, h3⟩))
def unsB (x : jE) : Bool := ((!x.num.neg && !x.den.neg) && (((x.num.gs.length : Nat) : Int) == 0)) && (((x.den.gs.length : Nat) : Int) == 0)
theorem uns_eq {x : jE} (h : unsB x = true) : x = zr := by
  obtain ⟨⟨n, g⟩, ⟨m, d⟩⟩ := x
  unfold unsB at h
  simp only [Bool.and_eq_true, Bool.not_eq_true', beq_iff_eq] at h
  obtain ⟨⟨⟨h1, h2⟩, h3⟩, h4⟩ := h
  have e3 : g = [] := List.eq_nil_of_length_eq_zero (by omega)
  have e4 : d = [] := List.eq_nil_of_length_eq_zero (by omega)
  subst h1; subst h2; subst e3; subst e4
  rfl
def badN (x : vT) : Prop := cV x.op < 0 ∨ (cV x.op < 2 ∧ x.b ≠ 0) ∨ (x.op = 0 ∧ (x.a ≠ 0 ∨ kP x.n = false)) ∨ (x.op ≠ 0 ∧ unsB x.n = false)
instance (x : vT) : Decidable (badN x) := by unfold badN; infer_instance
def ordN (k : Int) (x : vT) : Prop := (0 < cV x.op ∧ (x.a < 0 ∨ k ≤ x.a)) ∨ (1 < cV x.op ∧ (x.b < 0 ∨ k ≤ x.b))
instance (k : Int) (x : vT) : Decidable (ordN k x) := by unfold ordN; infer_instance
def rngN (z : Int) (x : vT) : Prop := x.op = 1 ∧ (x.a < 0 ∨ z ≤ x.a)
instance (z : Int) (x : vT) : Decidable (rngN z x) := by unfold rngN; infer_instance
def szN (ss : List Int) (x : vT) : Int := if cV x.op = 0 then 1 else if x.op = 6 then ss.getD x.a.toNat 0 else if x.op = 7 then 2 * ss.getD x.a.toNat 0 else ss.getD x.a.toNat 0 + ss.getD x.b.toNat 0
def ndC (z : Int) (ss : List Int) (x : vT) : Nat := if badN x then 1 else if ordN ((ss.length : Nat) : Int) x then 5 else if rngN z x then 2 else if 4096 < szN ss x then 3 else 0
def szU (t : List vT) : Nat → List Int
  | 0 => []
  | k + 1 => szU t k ++ [szN (szU t k) (t.getD k tz)]
theorem aA (t : List vT) : ∀ k, (szU t k).length = k
  | 0 => rfl
  | k + 1 => by rw [szU, List.length_append, aA t k]; rfl
def szUp (z : Int) (t : List vT) (k : Nat) : Prop := ∀ i, i < k → ndC z (szU t i) (t.getD i tz) = 0
theorem szUp_0 (z : Int) (t : List vT) : szUp z t 0 := fun i h => by omega
theorem szUp_s {z : Int} {t : List vT} {k : Nat} (h : szUp z t k) (hk : ndC z (szU t k) (t.getD k tz) = 0) : szUp z t (k + 1) := fun i hi => by
  rcases Nat.lt_or_ge i k with h1 | h1
  · exact h i h1
  · obtain rfl : i = k := by omega
    exact hk
def szE (z : Int) (t : List vT) : Nat → Nat → Nat
  | 0, _ => 0
  | f + 1, k => if ndC z (szU t k) (t.getD k tz) = 0 then szE z t f (k + 1) else ndC z (szU t k) (t.getD k tz)
def tmC (z : Int) (t : List vT) : Nat := if z < 0 ∨ 64 < z then 2 else if t.length = 0 then 1 else if 400 < t.length then 3 else szE z t t.length 0
def tmL (z : Int) (t : List vT) : List Int := if tmC z t = 0 then szU t t.length else []
theorem szE_0 {z : Int} {t : List vT} : ∀ {f k : Nat}, szE z t f k = 0 ↔ ∀ i, k ≤ i → i < k + f → ndC z (szU t i) (t.getD i tz) = 0
  | 0, k => by simp only [szE, true_iff]; intro i h1 h2; omega
  | f + 1, k => by
    unfold szE
    constructor
    · intro h i h1 h2
      split at h
      · rename_i h0
        rcases Nat.lt_or_ge k i with h3 | h3
        · exact szE_0.1 h i (by omega) (by omega)
        · obtain rfl : i = k := by omega
          exact h0
      · rename_i h0; exact absurd h h0
    · intro h
      rw [if_pos (h k (Nat.le_refl _) (by omega))]
      exact szE_0.2 fun i h1 h2 => h i (by omega) (by omega)
theorem szE_at {z : Int} {t : List vT} {m : Nat} (hm : ndC z (szU t m) (t.getD m tz) ≠ 0) : ∀ {f k : Nat}, k ≤ m → m < k + f → (∀ i, k ≤ i → i < m → ndC z (szU t i) (t.getD i tz) = 0) → szE z t f k = ndC z (szU t m) (t.getD m tz)
  | 0, k, h1, h2, _ => by omega
  | f + 1, k, h1, h2, h => by
    unfold szE
    rcases Nat.lt_or_ge k m with h3 | h3
    · rw [if_pos (h k (Nat.le_refl _) h3)]
      exact szE_at hm (by omega) (by omega) fun i a b => h i (by omega) b
    · obtain rfl : k = m := by omega
      rw [if_neg hm]
theorem tm_1 {z : Int} {t : List vT} (h : z < 0 ∨ 64 < z) : tmC z t = 2 := if_pos h
theorem tm_2 {z : Int} {t : List vT} (h : ¬ (z < 0 ∨ 64 < z)) (h1 : t.length = 0) : tmC z t = 1 := by unfold tmC; rw [if_neg h, if_pos h1]
theorem tm_3 {z : Int} {t : List vT} (h : ¬ (z < 0 ∨ 64 < z)) (h1 : t.length ≠ 0) (h2 : 400 < t.length) : tmC z t = 3 := by unfold tmC; rw [if_neg h, if_neg h1, if_pos h2]
theorem tm_e {z : Int} {t : List vT} (h : ¬ (z < 0 ∨ 64 < z)) (h1 : t.length ≠ 0) (h2 : ¬ 400 < t.length) : tmC z t = szE z t t.length 0 := by unfold tmC; rw [if_neg h, if_neg h1, if_neg h2]
theorem tm_no {z : Int} {t : List vT} {k : Nat} (h : ¬ (z < 0 ∨ 64 < z)) (h1 : k < t.length) (h2 : ¬ 400 < t.length) (hu : szUp z t k) (hc : ndC z (szU t k) (t.getD k tz) ≠ 0) : tmC z t = ndC z (szU t k) (t.getD k tz) ∧ tmL z t = [] := by
  have e : tmC z t = ndC z (szU t k) (t.getD k tz) := by
    rw [tm_e h (by omega) h2]
    exact szE_at hc (by omega) (by omega) fun i _ hi => hu i hi
  exact ⟨e, if_neg (by rw [e]; exact hc)⟩
theorem tm_yes {z : Int} {t : List vT} (h : ¬ (z < 0 ∨ 64 < z)) (h1 : t.length ≠ 0) (h2 : ¬ 400 < t.length) (hu : szUp z t t.length) : tmC z t = 0 ∧ tmL z t = szU t t.length := by
  have e : tmC z t = 0 := by
    rw [tm_e h h1 h2]
    exact szE_0.2 fun i _ hi => hu i (by omega)
  exact ⟨e, if_pos e⟩
theorem tm_n {z : Int} {t : List vT} (h : tmC z t ≠ 0) : tmL z t = [] := if_neg h
theorem tm_0 {z : Int} {t : List vT} (h : tmC z t = 0) : 0 ≤ z ∧ z ≤ 64 ∧ t.length ≠ 0 ∧ t.length ≤ 400 ∧ szUp z t t.length := by
  by_cases h0 : z < 0 ∨ 64 < z
  · rw [tm_1 h0] at h; cases h
  by_cases h1 : t.length = 0
  · rw [tm_2 h0 h1] at h; cases h
  by_cases h2 : 400 < t.length
  · rw [tm_3 h0 h1 h2] at h; cases h
  rw [tm_e h0 h1 h2] at h
  exact ⟨by omega, by omega, h1, by omega, fun i hi => szE_0.1 h i (by omega) (by omega)⟩
theorem nd_0 {z : Int} {ss : List Int} {x : vT} (h : ndC z ss x = 0) : ¬ badN x ∧ ¬ ordN ((ss.length : Nat) : Int) x ∧ ¬ rngN z x ∧ szN ss x ≤ 4096 := by
  unfold ndC at h
  split at h
  · cases h
  · rename_i h1
    split at h
    · cases h
    · rename_i h2
      split at h
      · cases h
      · rename_i h3
        split at h
        · cases h
        · rename_i h4
          exact ⟨h1, h2, h3, by omega⟩
theorem nd_1 {z : Int} {ss : List Int} {x : vT} (h : badN x) : ndC z ss x = 1 := if_pos h
theorem nd_5 {z : Int} {ss : List Int} {x : vT} (h : ¬ badN x) (h2 : ordN ((ss.length : Nat) : Int) x) : ndC z ss x = 5 := by unfold ndC; rw [if_neg h, if_pos h2]
theorem nd_2 {z : Int} {ss : List Int} {x : vT} (h : ¬ badN x) (h2 : ¬ ordN ((ss.length : Nat) : Int) x) (h3 : rngN z x) : ndC z ss x = 2 := by unfold ndC; rw [if_neg h, if_neg h2, if_pos h3]
theorem nd_3 {z : Int} {ss : List Int} {x : vT} (h : ¬ badN x) (h2 : ¬ ordN ((ss.length : Nat) : Int) x) (h3 : ¬ rngN z x) (h4 : 4096 < szN ss x) : ndC z ss x = 3 := by unfold ndC; rw [if_neg h, if_neg h2, if_neg h3, if_pos h4]
theorem nd_y {z : Int} {ss : List Int} {x : vT} (h : ¬ badN x) (h2 : ¬ ordN ((ss.length : Nat) : Int) x) (h3 : ¬ rngN z x) (h4 : ¬ 4096 < szN ss x) : ndC z ss x = 0 := by unfold ndC; rw [if_neg h, if_neg h2, if_neg h3, if_neg h4]
theorem sz_rng {z : Int} {t : List vT} : ∀ {k : Nat}, szUp z t k → ∀ j, j < k → 1 ≤ (szU t k).getD j 0 ∧ (szU t k).getD j 0 ≤ 4096
  | 0, _, j, h => by omega
  | k + 1, hu, j, hj => by
    have ih := sz_rng (k := k) (fun i hi => hu i (by omega))
    have hl := aA t k
    obtain ⟨h1, h2, h3, h4⟩ := nd_0 (hu k (by omega))
    rw [hl] at h2
    unfold szU
    rcases Nat.lt_or_ge j k with h | h
    · rw [List.getD_eq_getElem?_getD, List.getElem?_append_left (by omega), ← List.getD_eq_getElem?_getD]
      exact ih j h
    · obtain rfl : j = k := by omega
      rw [List.getD_eq_getElem?_getD, List.getElem?_append_right (by omega), hl, Nat.sub_self]
      show 1 ≤ szN (szU t j) (t.getD j tz) ∧ szN (szU t j) (t.getD j tz) ≤ 4096
      refine ⟨?_, h4⟩
      have hA : ∀ a : Int, 0 ≤ a → a < j → 1 ≤ (szU t j).getD a.toNat 0 := fun a q1 q2 => (ih a.toNat (by omega)).1
      generalize t.getD j tz = x at *
      unfold szN ordN badN at *
      rcases kd_cases x.op with ⟨e, _⟩ | ⟨e, f⟩ | ⟨e, f⟩ | ⟨e, _⟩
      · rw [if_pos e]; exact Int.le_refl _
      · have ha := hA x.a (by omega) (by omega)
        rw [if_neg (by omega)]
        split
        · exact ha
        · split <;> omega
      · have ha := hA x.a (by omega) (by omega)
        have hb := hA x.b (by omega) (by omega)
        rw [if_neg (by omega), if_neg (by omega), if_neg (by omega)]
        omega
      · omega
def szI (t : List vT) (k : Nat) (o : List Int) : Prop := o.length = t.length ∧ o.take k = szU t k
theorem szI_0 {t : List vT} : szI t 0 (List.replicate t.length 0) := ⟨List.length_replicate, rfl⟩
theorem szI.at {t : List vT} {k : Nat} {o : List Int} (h : szI t k o) {j : Nat} (hj : j < k) (hk : k ≤ t.length) : o.getD j 0 = (szU t k).getD j 0 := by
  rw [← h.2, List.getD_eq_getElem?_getD, List.getD_eq_getElem?_getD, List.getElem?_take_of_lt hj]
theorem szI.put {t : List vT} {k : Nat} {o : List Int} (h : szI t k o) (hk : k < t.length) {v : Int} (hv : v = szN (szU t k) (t.getD k tz)) : szI t (k + 1) (o.set k v) := by
  refine ⟨by rw [List.length_set]; exact h.1, ?_⟩
  have hl := h.1
  rw [List.take_succ_eq_append_getElem (by rw [List.length_set]; omega), List.getElem_set_self, List.take_set_of_le (Nat.le_refl k), h.2, szU, hv]
theorem set_getD {o : List Int} {k : Nat} {v : Int} (h : k < o.length) : (o.set k v).getD k 0 = v := by
  rw [List.getD_eq_getElem?_getD, List.getElem?_set_self h]; rfl
theorem szI_end {t : List vT} {o : List Int} (h : szI t t.length o) : o = szU t t.length := by
  rw [← h.2, ← h.1, List.take_length]
def badB (x : vT) : Bool := (((decide (cV x.op < 0) || (decide (cV x.op < 2) && (x.b != 0))) || ((x.op == 0) && ((x.a != 0) || !(kP x.n)))) || ((x.op != 0) && !(unsB x.n)))
def ordB (k : Int) (x : vT) : Bool := ((decide (0 < cV x.op) && (decide (x.a < 0) || decide (k ≤ x.a))) || (decide (1 < cV x.op) && (decide (x.b < 0) || decide (k ≤ x.b))))
def rngB (z : Int) (x : vT) : Bool := ((x.op == 1) && (decide (x.a < 0) || decide (z ≤ x.a)))
theorem badB_iff {x : vT} : badB x = true ↔ badN x := by
  unfold badB badN
  simp only [Bool.or_eq_true, Bool.and_eq_true, decide_eq_true_eq, beq_iff_eq, bne_iff_ne, Bool.not_eq_true', ne_eq, or_assoc]
theorem ordB_iff {k : Int} {x : vT} : ordB k x = true ↔ ordN k x := by
  unfold ordB ordN
  simp only [Bool.or_eq_true, Bool.and_eq_true, decide_eq_true_eq]
theorem rngB_iff {k : Int} {x : vT} : rngB k x = true ↔ rngN k x := by
  unfold rngB rngN
  simp only [Bool.or_eq_true, Bool.and_eq_true, decide_eq_true_eq, beq_iff_eq]
theorem not_of {b : Bool} {p : Prop} (h : b = true ↔ p) (hb : b = false) : ¬ p := fun q => by rw [h.2 q] at hb; cases hb
structure TmR (z : Int) (t : List vT) (k : Nat) : Prop where
  z0 : ¬ (z < 0 ∨ 64 < z)
  kl : k < t.length
  tl : ¬ 400 < t.length
  up : szUp z t k
theorem tmr {z : Int} {t : List vT} {k : Nat} (h : (decide (z < 0) || decide (64 < z)) = false) (h1 : ((k : Nat) : Int) < ((t.length : Nat) : Int)) (h2 : ¬ 400 < ((t.length : Nat) : Int)) (hu : szUp z t k) : TmR z t k := by
  rw [Bool.or_eq_false_iff, decide_eq_false_iff_not, decide_eq_false_iff_not] at h
  exact ⟨by omega, by omega, by omega, hu⟩
theorem zb_t {z : Int} {t : List vT} (h : (decide (z < 0) || decide (64 < z)) = true) : tmC z t = 2 ∧ tmL z t = [] := by
  rw [Bool.or_eq_true, decide_eq_true_eq, decide_eq_true_eq] at h
  have e := tm_1 (t := t) h
  exact ⟨e, tm_n (by rw [e]; decide)⟩
theorem zb_f {z : Int} (h : (decide (z < 0) || decide (64 < z)) = false) : ¬ (z < 0 ∨ 64 < z) := by
  rw [Bool.or_eq_false_iff, decide_eq_false_iff_not, decide_eq_false_iff_not] at h
  omega
theorem tm_l0 {z : Int} {t : List vT} (h : (decide (z < 0) || decide (64 < z)) = false) (h1 : t.length = 0) : tmC z t = 1 ∧ tmL z t = [] := by
  have e := tm_2 (zb_f h) h1
  exact ⟨e, tm_n (by rw [e]; decide)⟩
theorem tm_lb {z : Int} {t : List vT} (h : (decide (z < 0) || decide (64 < z)) = false) (h1 : 400 < t.length) : tmC z t = 3 ∧ tmL z t = [] := by
  have e := tm_3 (zb_f h) (by omega) h1
  exact ⟨e, tm_n (by rw [e]; decide)⟩
theorem TmR.bad {z : Int} {t : List vT} {k : Nat} (h : TmR z t k) (hb : badB (t.getD k tz) = true) : tmC z t = 1 ∧ tmL z t = [] := by
  have e := nd_1 (z := z) (ss := szU t k) (badB_iff.1 hb)
  have := tm_no h.z0 h.kl h.tl h.up (by rw [e]; decide)
  rwa [e] at this
theorem TmR.ord {z : Int} {t : List vT} {k : Nat} (h : TmR z t k) (hb : badB (t.getD k tz) = false) (ho : ordB ((k : Nat) : Int) (t.getD k tz) = true) : tmC z t = 5 ∧ tmL z t = [] := by
  have e := nd_5 (z := z) (ss := szU t k) (not_of badB_iff hb) (by rw [aA]; exact ordB_iff.1 ho)
  have := tm_no h.z0 h.kl h.tl h.up (by rw [e]; decide)
  rwa [e] at this
theorem TmR.rng {z : Int} {t : List vT} {k : Nat} (h : TmR z t k) (hb : badB (t.getD k tz) = false) (ho : ordB ((k : Nat) : Int) (t.getD k tz) = false) (hr : rngB z (t.getD k tz) = true) : tmC z t = 2 ∧ tmL z t = [] := by
  have e := nd_2 (z := z) (ss := szU t k) (not_of badB_iff hb) (by rw [aA]; exact not_of ordB_iff ho) (rngB_iff.1 hr)
  have := tm_no h.z0 h.kl h.tl h.up (by rw [e]; decide)
  rwa [e] at this
structure NdR (z : Int) (t : List vT) (k : Nat) : Prop where
  tm : TmR z t k
  bad : ¬ badN (t.getD k tz)
  ord : ¬ ordN ((k : Nat) : Int) (t.getD k tz)
  rng : ¬ rngN z (t.getD k tz)
theorem ndr {z : Int} {t : List vT} {k : Nat} (h : TmR z t k) (hb : badB (t.getD k tz) = false) (ho : ordB ((k : Nat) : Int) (t.getD k tz) = false) (hr : rngB z (t.getD k tz) = false) : NdR z t k := ⟨h, not_of badB_iff hb, not_of ordB_iff ho, not_of rngB_iff hr⟩
theorem NdR.big {z : Int} {t : List vT} {k : Nat} (h : NdR z t k) {v : Int} (hv : v = szN (szU t k) (t.getD k tz)) {o : List Int} (ho : k < o.length) (hb : 4096 < (o.set k v).getD k 0) : tmC z t = 3 ∧ tmL z t = [] := by
  rw [set_getD ho, hv] at hb
  have e := nd_3 (z := z) (ss := szU t k) h.bad (by rw [aA]; exact h.ord) h.rng hb
  have := tm_no h.tm.z0 h.tm.kl h.tm.tl h.tm.up (by rw [e]; decide)
  rwa [e] at this
theorem NdR.next {z : Int} {t : List vT} {k : Nat} (h : NdR z t k) {v : Int} (hv : v = szN (szU t k) (t.getD k tz)) {o : List Int} (ho : szI t k o) (hb : ¬ 4096 < (o.set k v).getD k 0) : k + 1 ≤ t.length ∧ szI t (k + 1) (o.set k v) ∧ szUp z t (k + 1) := by
  have hl := ho.1
  have hk := h.tm.kl
  rw [set_getD (by omega), hv] at hb
  exact ⟨hk, ho.put hk hv, szUp_s h.tm.up (nd_y h.bad (by rw [aA]; exact h.ord) h.rng hb)⟩
theorem NdR.kd {z : Int} {t : List vT} {k : Nat} (h : NdR z t k) : 0 ≤ cV (t.getD k tz).op := by
  have := h.bad; unfold badN at this; omega
theorem NdR.a {z : Int} {t : List vT} {k : Nat} (h : NdR z t k) {o : List Int} (ho : szI t k o) (h0 : cV (t.getD k tz).op ≠ 0) :
    0 ≤ (t.getD k tz).a ∧ (t.getD k tz).a.toNat < k ∧ o.getD (t.getD k tz).a.toNat 0 = (szU t k).getD (t.getD k tz).a.toNat 0 ∧ 1 ≤ o.getD (t.getD k tz).a.toNat 0 ∧ o.getD (t.getD k tz).a.toNat 0 ≤ 4096 := by
  have h1 := h.kd
  have h2 := h.ord
  unfold ordN at h2
  have ha : (t.getD k tz).a.toNat < k := by omega
  have e := ho.at ha (by have := h.tm.kl; omega)
  have r := sz_rng h.tm.up _ ha
  rw [← e] at r
  exact ⟨by omega, ha, e, r⟩
theorem NdR.b {z : Int} {t : List vT} {k : Nat} (h : NdR z t k) {o : List Int} (ho : szI t k o) (h0 : cV (t.getD k tz).op ≠ 0) (h6 : (t.getD k tz).op ≠ 6) (h7 : (t.getD k tz).op ≠ 7) :
    0 ≤ (t.getD k tz).b ∧ (t.getD k tz).b.toNat < k ∧ o.getD (t.getD k tz).b.toNat 0 = (szU t k).getD (t.getD k tz).b.toNat 0 ∧ 1 ≤ o.getD (t.getD k tz).b.toNat 0 ∧ o.getD (t.getD k tz).b.toNat 0 ≤ 4096 := by
  have h1 := h.kd
  have h2 := h.ord
  have h3 : cV (t.getD k tz).op = 2 := by rcases kd_cases (t.getD k tz).op with ⟨a, b⟩ | ⟨a, b⟩ | ⟨a, b⟩ | ⟨a, b⟩ <;> omega
  unfold ordN at h2
  have ha : (t.getD k tz).b.toNat < k := by omega
  have e := ho.at ha (by have := h.tm.kl; omega)
  have r := sz_rng h.tm.up _ ha
  rw [← e] at r
  exact ⟨by omega, ha, e, r⟩
theorem szN_c {ss : List Int} {x : vT} (h : cV x.op = 0) : (1 : Int) = szN ss x := (if_pos h).symm
theorem szN_n {ss : List Int} {x : vT} {v : Int} (h : cV x.op ≠ 0) (h6 : x.op = 6) (hv : v = ss.getD x.a.toNat 0) : v = szN ss x := by
  unfold szN; rw [if_neg h, if_pos h6, hv]
theorem szN_q {ss : List Int} {x : vT} {v : Int} (h : cV x.op ≠ 0) (h7 : x.op = 7) (hv : v = ss.getD x.a.toNat 0) : 2 * v = szN ss x := by
  unfold szN; rw [if_neg h, if_neg (by omega), if_pos h7, hv]
theorem szN_b {ss : List Int} {x : vT} {v w : Int} (h : cV x.op ≠ 0) (h6 : x.op ≠ 6) (h7 : x.op ≠ 7) (hv : v = ss.getD x.a.toNat 0) (hw : w = ss.getD x.b.toNat 0) : v + w = szN ss x := by
  unfold szN; rw [if_neg h, if_neg h6, if_neg h7, hv, hw]
theorem tm_end {z : Int} {t : List vT} {k : Nat} {o : List Int} (h : (decide (z < 0) || decide (64 < z)) = false) (h0 : ((t.length : Nat) : Int) ≠ 0) (h4 : ¬ 400 < ((t.length : Nat) : Int)) (hk : k ≤ t.length) (h5 : ¬ ((k : Nat) : Int) < ((t.length : Nat) : Int)) (ho : szI t k o) (hu : szUp z t k) : tmC z t = 0 ∧ tmL z t = o := by
  obtain rfl : k = t.length := by omega
  obtain ⟨e1, e2⟩ := tm_yes (zb_f h) (by omega) (by omega) hu
  exact ⟨e1, by rw [e2, szI_end ho]⟩
inductive NdOk (n : Nat) (L : List JV) : vT → Prop
  | c {p : Rat} (hp : QL p 1048576) : NdOk n L ⟨0, 0, 0, jT p⟩
  | v {a : Nat} (ha : a < n) : NdOk n L ⟨1, (a : Int), 0, zr⟩
  | add {a b : Nat} (ha : a < L.length) (hb : b < L.length) : NdOk n L ⟨2, (a : Int), (b : Int), zr⟩
  | sub {a b : Nat} (ha : a < L.length) (hb : b < L.length) : NdOk n L ⟨3, (a : Int), (b : Int), zr⟩
  | mul {a b : Nat} (ha : a < L.length) (hb : b < L.length) : NdOk n L ⟨4, (a : Int), (b : Int), zr⟩
  | div {a b : Nat} (ha : a < L.length) (hb : b < L.length) (hz : zeroG (L.getD b jz).v.1 (L.getD b jz).v.2 = false) : NdOk n L ⟨5, (a : Int), (b : Int), zr⟩
  | neg {a : Nat} (ha : a < L.length) : NdOk n L ⟨6, (a : Int), 0, zr⟩
  | sq {a : Nat} (ha : a < L.length) : NdOk n L ⟨7, (a : Int), 0, zr⟩
theorem nat_of {a : Int} (h : 0 ≤ a) : ∃ m : Nat, a = (m : Int) := ⟨a.toNat, by omega⟩
theorem nd_ok {bx : List R2} {t : List vT} {k : Nat} {ss : List Int} (h : ndC ((bx.length : Nat) : Int) ss (t.getD k tz) = 0) (hs : ss.length = k) (hq : hH (t.getD k tz).n (jN (t.getD k tz).n) 1048576)
    (hz : (t.getD k tz).op = 5 → zeroG (jA (jU bx t k) (t.getD k tz).b).v.1 (jA (jU bx t k) (t.getD k tz).b).v.2 = false) : NdOk bx.length (jU bx t k) (t.getD k tz) := by
  obtain ⟨h1, h2, h3, _⟩ := nd_0 h
  have hl := jU_len bx t k
  rw [hs] at h2
  generalize t.getD k tz = x at *
  generalize jU bx t k = L at *
  obtain ⟨op, a, b, n⟩ := x
  unfold badN at h1
  unfold ordN at h2
  unfold rngN at h3
  dsimp only at *
  have hu : op ≠ 0 → n = zr := fun h => uns_eq (by
    cases hh : unsB n with
    | true => rfl
    | false => exact absurd (Or.inr (Or.inr (Or.inr ⟨h, hh⟩))) h1)
  rcases kd_cases op with ⟨e, f⟩ | ⟨e, f⟩ | ⟨e, f⟩ | ⟨e, f⟩
  · have hb : b = 0 := by omega
    subst hb
    rcases f with f | f
    · subst f
      have ha : a = 0 := by omega
      subst ha
      have hv : kP n = true := by
        cases hh : kP n with
        | true => rfl
        | false => exact absurd (Or.inr (Or.inr (Or.inl ⟨rfl, Or.inr hh⟩))) h1
      rw [← ofQ_toQ hv] at hq ⊢
      rw [gR] at hq
      exact .c (hq.ql)
    · subst f
      obtain ⟨m, hm⟩ := nat_of (a := a) (by omega)
      subst hm
      rw [hu (by decide)]
      exact .v (by omega)
  · have hb : b = 0 := by omega
    subst hb
    obtain ⟨m, hm⟩ := nat_of (a := a) (by omega)
    subst hm
    rw [hu (by omega)]
    rcases f with f | f <;> subst f
    · exact .neg (by omega)
    · exact .sq (by omega)
  · obtain ⟨m, hm⟩ := nat_of (a := a) (by omega)
    subst hm
    obtain ⟨l, hl'⟩ := nat_of (a := b) (by omega)
    subst hl'
    rw [hu (by omega)]
    rcases f with f | f | f | f <;> subst f
    · exact .add (by omega) (by omega)
    · exact .sub (by omega) (by omega)
    · exact .mul (by omega) (by omega)
    · refine .div (by omega) (by omega) ?_
      have := hz rfl
      unfold jA at this
      rwa [Int.toNat_natCast] at this
  · omega
structure JRun (bx : List R2) (t : List vT) : Prop where
  c0 : tmC ((bx.length : Nat) : Int) t = 0
  ok : ∀ k, k < t.length → JOk 1048576 bx.length (nJ bx (jU bx t k) (t.getD k tz))
  dz : ∀ k, k < t.length → (t.getD k tz).op = 5 → zeroG (jA (jU bx t k) (t.getD k tz).b).v.1 (jA (jU bx t k) (t.getD k tz).b).v.2 = false
theorem JRun.upto {bx : List R2} {t : List vT} (h : JRun bx t) : ∀ {k}, k ≤ t.length → ∀ y ∈ jU bx t k, JOk 1048576 bx.length y
  | 0, _, y, hy => by simp [jU] at hy
  | k + 1, hk, y, hy => by
    rw [jU, List.mem_append] at hy
    rcases hy with hy | hy
    · exact h.upto (by omega) y hy
    · rw [List.mem_singleton] at hy; subst hy
      exact h.ok k (by omega)
theorem JRun.nd {bx : List R2} {t : List vT} (h : JRun bx t) (hq : ∀ x ∈ t, hH x.n (jN x.n) 1048576) {k : Nat} (hk : k < t.length) : NdOk bx.length (jU bx t k) (t.getD k tz) := by
  have h0 := tm_0 h.c0
  refine nd_ok (h0.2.2.2.2 k hk) (aA t k) ?_ (h.dz k hk)
  rw [List.getD_eq_getElem?_getD, List.getElem?_eq_getElem hk]; exact hq _ (List.getElem_mem _)
def gO (bx : List R2) (t : List vT) : JV := (jU bx t t.length).getD (t.length - 1) jz
theorem JRun.last {bx : List R2} {t : List vT} (h : JRun bx t) : JOk 1048576 bx.length (gO bx t) := by
  have h0 := tm_0 h.c0
  have hl := jU_len bx t t.length
  unfold gO
  rw [List.getD_eq_getElem?_getD, List.getElem?_eq_getElem (by omega)]
  exact h.upto (Nat.le_refl _) _ (List.getElem_mem _)
end Go.Fid
set_option linter.unusedVariables false
set_option linter.unusedSimpArgs false
namespace Go.Proofs.YtnajallgoaiahaaGreatDoor
open Go.Fid
def fL {α : Type} (f : α → Bool) : List α → Nat → Int
  | [], _ => -1
  | x :: r, i => bif f x then ((i : Nat) : Int) else fL f r (i + 1)
theorem fst0_step {α : Type} (f : α → Bool) (d : α) (l : List α) (k : Nat) (h : k < l.length) (hf : f (l.getD k d) = false) : fL f (l.drop k) k = fL f (l.drop (k + 1)) (k + 1) := by
  rw [List.drop_eq_getElem_cons h, fL, show f l[k] = false by rw [← hf, List.getD_eq_getElem?_getD, List.getElem?_eq_getElem h]; rfl]; rfl
theorem fst0_at {α : Type} (f : α → Bool) (d : α) (l : List α) (k : Nat) (h : k < l.length) (hf : f (l.getD k d) = true) : fL f (l.drop k) k = ((k : Nat) : Int) := by
  rw [List.drop_eq_getElem_cons h, fL, show f l[k] = true by rw [← hf, List.getD_eq_getElem?_getD, List.getElem?_eq_getElem h]; rfl]; rfl
theorem fst0_end {α : Type} (f : α → Bool) (l : List α) (k : Nat) (h : l.length ≤ k) : fL f (l.drop k) k = -1 := by rw [List.drop_eq_nil_of_le h]; rfl
theorem fst0_any {α : Type} (f : α → Bool) : ∀ (l : List α) (i : Nat), decide (0 ≤ fL f l i) = l.any f
  | [], i => by simp [fL]
  | x :: r, i => by
    rw [fL, List.any_cons]
    cases f x
    · rw [Bool.false_or, cond_false]; exact fst0_any f r (i + 1)
    · rw [Bool.true_or, cond_true, decide_eq_true_eq]; omega
theorem vRow_any (l : List jE) : (!(l.any (fun x => !(kP x)))) = eT l := by
  unfold eT
  rw [List.all_eq_not_any_not]
def xS (m : List (List jE)) (l : List jE) : Bool := (((l.length : Nat) : Int) != (((m.getD 0 []).length : Nat) : Int)) || !(eT l)
def shpB (m : List (List jE)) : Bool := (((decide (((m.length : Nat) : Int) < 1) || decide (64 < ((m.length : Nat) : Int))) || decide ((((m.getD 0 []).length : Nat) : Int) < 1)) || decide (64 < (((m.getD 0 []).length : Nat) : Int)))
def nE (m : List (List jE)) : Nat := bif shpB m || m.any (xS m) then 1 else 0
theorem shp_0 {m : List (List jE)} (h : shpB m = false) : 0 < m.length := by
  unfold shpB at h
  simp only [Bool.or_eq_false_iff, decide_eq_false_iff_not] at h
  omega
theorem mchk_1 {m : List (List jE)} (h : shpB m = true) : nE m = 1 := by unfold nE; rw [h]; rfl
theorem mchk_2 {m : List (List jE)} (h : m.any (xS m) = true) : nE m = 1 := by unfold nE; rw [h, Bool.or_true]; rfl
theorem mchk_3 {m : List (List jE)} (h1 : shpB m = false) (h : m.any (xS m) = false) : nE m = 0 := by unfold nE; rw [h, h1]; rfl
structure mF (m : List (List jE)) (r c : Nat) : Prop where
  hr : m.length = r
  hc : ∀ l ∈ m, l.length = c ∧ eT l = true
  r1 : 1 ≤ r
  r64 : r ≤ 64
  c1 : 1 ≤ c
  c64 : c ≤ 64
theorem fJ {m : List (List jE)} (h : nE m = 0) : mF m m.length (m.getD 0 []).length := by
  unfold nE at h
  cases hb : shpB m || m.any (xS m) with
  | true => rw [hb] at h; cases h
  | false =>
    rw [Bool.or_eq_false_iff] at hb
    obtain ⟨h1, h2⟩ := hb
    unfold shpB at h1
    simp only [Bool.or_eq_false_iff, decide_eq_false_iff_not] at h1
    refine ⟨rfl, fun l hl => ?_, by omega, by omega, by omega, by omega⟩
    have h3 := List.any_eq_false.1 h2 l hl
    unfold xS at h3
    rw [Bool.not_eq_true, Bool.or_eq_false_iff, Bool.not_eq_false', bne_eq_false_iff_eq] at h3
    exact ⟨by omega, h3.2⟩
theorem mF.at {m : List (List jE)} {r c : Nat} (h : mF m r c) {i : Nat} (hi : i < r) : (m.getD i []).length = c ∧ eT (m.getD i []) = true := by
  have := h.hr
  rw [List.getD_eq_getElem?_getD, List.getElem?_eq_getElem (by omega)]; exact h.hc _ (List.getElem_mem _)
theorem toQ_zr : jN zr = 0 := by unfold jN; rw [if_neg (by decide)]
def dotT (l m : List jE) : Nat → Rat
  | 0 => 0
  | i + 1 => dotT l m i + jN (l.getD i zr) * jN (m.getD i zr)
def dotR (l m : List jE) : Rat := dotT l m l.length
theorem dotT_skip {l m : List jE} {i : Nat} (h : jN (l.getD i zr) = 0 ∨ jN (m.getD i zr) = 0) : dotT l m i = dotT l m (i + 1) := by
  rw [dotT]
  rcases h with h | h <;> rw [h] <;> grind
theorem vK {l : List jE} {n j : Nat} (h : zG n l) (hn : 1 ≤ n) : QL (jN (l.getD j zr)) n := by
  rcases Nat.lt_or_ge j l.length with hj | hj
  · exact (qN h.1 hj).ql
  · rw [List.getD_eq_getElem?_getD, List.getElem?_eq_none (by omega)]
    show QL (jN zr) n
    rw [toQ_zr]
    exact yA aK hn
theorem dotT_ql {l m : List jE} {a b : Nat} (hl : zG a l) (hm : zG b m) (ha : 1 ≤ a) (hb : 1 ≤ b) : ∀ i, QL (dotT l m i) (i * (a + b + 1) + 1)
  | 0 => yA aK (by omega)
  | i + 1 => by
    rw [dotT]
    exact xA (dotT_ql hl hm ha hb i) (kM (vK hl ha) (vK hm hb) (Nat.le_refl _)) (by rw [Nat.add_mul]; omega)
theorem dot_ql1 {l m : List jE} {i : Nat} (hl : zG 1048576 l) (hm : zG 1048576 m) (hi : i ≤ 64) : QL (dotT l m i) 134217800 :=
  yA (dotT_ql hl hm (by decide) (by decide) i) (Nat.le_trans (Nat.add_le_add_right (Nat.mul_le_mul_right _ hi) 1) (by decide))
theorem dot_ql2 {l m : List jE} {i : Nat} (hl : zG 1048576 l) (hm : zG 134217800 m) (hi : i ≤ 64) : QL (dotT l m i) 8800000000 :=
  yA (dotT_ql hl hm (by decide) (by decide) i) (Nat.le_trans (Nat.add_le_add_right (Nat.mul_le_mul_right _ hi) 1) (by decide))
def appR (m : List (List jE)) (v : List jE) : List jE := m.map fun r => jT (dotR r v)
theorem appR_len (m : List (List jE)) (v : List jE) : (appR m v).length = m.length := List.length_map _
theorem appR_step {m : List (List jE)} {v : List jE} {i : Nat} (h : i < m.length) : (m.take i).map (fun r => jT (dotR r v)) ++ [jT (dotR (m.getD i []) v)] = (m.take (i + 1)).map (fun r => jT (dotR r v)) := by
  rw [List.take_succ_eq_append_getElem h, List.map_append, List.getD_eq_getElem?_getD, List.getElem?_eq_getElem h]; rfl
theorem appR_ok {m : List (List jE)} {v : List jE} (hm : vR 1048576 m) (hv : zG 1048576 v) (hr : ∀ l ∈ m, l.length ≤ 64) : zG 134217800 (appR m v) := by
  refine ⟨fun a ha => ?_, by rw [appR_len]; exact hm.2⟩
  obtain ⟨r, h1, rfl⟩ := List.mem_map.1 ha
  rw [gR]
  exact kA (dot_ql1 (hm.1 r h1) hv (hr r h1))
def covR (q : List (List jE)) (a b : List jE) : Rat := dotR a (appR q b)
def eqM (m : List (List jE)) (i j : Nat) : Bool := decide (jN ((m.getD i []).getD j zr) = jN ((m.getD j []).getD i zr))
def symB (m : List (List jE)) : Bool := (List.range m.length).all fun i => (List.range i).all fun j => eqM m i j
def symI (m : List (List jE)) (k : Nat) : Prop := ∀ i, i < k → ∀ j, j < i → eqM m i j = true
theorem symI_0 (m : List (List jE)) : symI m 0 := fun i h => by omega
theorem symI_s {m : List (List jE)} {k : Nat} (h : symI m k) (h2 : ∀ j, j < k → eqM m k j = true) : symI m (k + 1) := fun i hi j hj => by
  rcases Nat.lt_or_ge i k with h3 | h3
  · exact h i h3 j hj
  · obtain rfl : i = k := by omega
    exact h2 j hj
theorem sym_no {m : List (List jE)} {i j : Nat} (hi : i < m.length) (hj : j < i) (h : eqM m i j = false) : symB m = false := by
  cases hb : symB m with
  | false => rfl
  | true =>
    have := List.all_eq_true.1 (List.all_eq_true.1 hb i (List.mem_range.2 hi)) j (List.mem_range.2 hj)
    rw [h] at this; cases this
theorem sym_yes {m : List (List jE)} (h : symI m m.length) : symB m = true := by
  unfold symB
  rw [List.all_eq_true]; intro i hi
  rw [List.all_eq_true]; intro j hj
  exact h i (List.mem_range.1 hi) j (List.mem_range.1 hj)
theorem sym_at {m : List (List jE)} (h : symB m = true) {i j : Nat} (hi : i < m.length) (hj : j < i) : jN ((m.getD i []).getD j zr) = jN ((m.getD j []).getD i zr) :=
  of_decide_eq_true (List.all_eq_true.1 (List.all_eq_true.1 h i (List.mem_range.2 hi)) j (List.mem_range.2 hj))
def gJ (m : List (List jE)) (n : Nat) : Nat := if m.length ≠ n ∨ (m.getD 0 []).length ≠ n then 4 else bif symB m then 0 else 11
theorem fit_1 {m : List (List jE)} {n : Nat} (h : (((((m.length : Nat) : Int) != ((n : Nat) : Int)) || ((((m.getD 0 []).length : Nat) : Int) != ((n : Nat) : Int)))) = true) : gJ m n = 4 := by
  rw [Bool.or_eq_true, bne_iff_ne, bne_iff_ne] at h
  exact if_pos (by omega)
theorem fit_0 {m : List (List jE)} {n : Nat} (h : (((((m.length : Nat) : Int) != ((n : Nat) : Int)) || ((((m.getD 0 []).length : Nat) : Int) != ((n : Nat) : Int)))) = false) : m.length = n ∧ (m.getD 0 []).length = n := by
  rw [Bool.or_eq_false_iff, bne_eq_false_iff_eq, bne_eq_false_iff_eq] at h
  omega
theorem fit_11 {m : List (List jE)} {n : Nat} (h : m.length = n ∧ (m.getD 0 []).length = n) (hs : symB m = false) : gJ m n = 11 := by
  unfold gJ; rw [if_neg (by omega), hs]; rfl
theorem fit_ok {m : List (List jE)} {n : Nat} (h : m.length = n ∧ (m.getD 0 []).length = n) (hs : symB m = true) : gJ m n = 0 := by
  unfold gJ; rw [if_neg (by omega), hs]; rfl
theorem fit_of {m : List (List jE)} {n : Nat} (h : gJ m n = 0) : m.length = n ∧ (m.getD 0 []).length = n ∧ symB m = true := by
  unfold gJ at h
  split at h
  · cases h
  · rename_i h1
    cases hs : symB m with
    | false => rw [hs] at h; cases h
    | true => exact ⟨by omega, by omega, rfl⟩
def yX (xs : List Rat) (t : List vT) : List jE := (gO (xs.map cZ) t).g.map fun y => jT y.1
def tabR (q : List (List jE)) (gs : List (List jE)) : List (List jE) := gs.map fun a => gs.map fun b => jT (covR q a b)
theorem gr_step {G : List R2} {i : Nat} (h : i < G.length) : (G.take i).map (fun y => jT y.1) ++ [jT (G.getD i z2).1] = (G.take (i + 1)).map (fun y => jT y.1) := by
  rw [List.take_succ_eq_append_getElem h, List.map_append, List.getD_eq_getElem?_getD, List.getElem?_eq_getElem h]; rfl
theorem grQ_len {xs : List Rat} {t : List vT} (h : JRun (xs.map cZ) t) : (yX xs t).length = xs.length := by
  unfold yX
  rw [List.length_map, h.last.2.2, List.length_map]
theorem grQ_ok {xs : List Rat} {t : List vT} (h : JRun (xs.map cZ) t) : zG 1048576 (yX xs t) := by
  have hl := h.last
  refine ⟨fun a ha => ?_, ?_⟩
  · unfold yX at ha
    obtain ⟨y, hy, rfl⟩ := List.mem_map.1 ha
    rw [gR]
    exact kA (hl.2.1 y hy).1
  · rw [grQ_len h]
    have := (tm_0 h.c0).2.1
    rw [List.length_map] at this; omega
theorem grQ_v {xs : List Rat} {t : List vT} : eT (yX xs t) = true := by
  unfold eT yX
  rw [List.all_eq_true]
  intro a ha
  obtain ⟨r, h1, rfl⟩ := List.mem_map.1 ha
  exact nY _
theorem dot_sk {a b : Rat} (h : ((dA a != 0) && (dA b != 0)) = false) : a = 0 ∨ b = 0 := by
  rw [Bool.and_eq_false_iff, bne_eq_false_iff_eq, bne_eq_false_iff_eq] at h
  rcases h with h | h
  · exact .inl (signQ_zero.1 h)
  · exact .inr (signQ_zero.1 h)
theorem mcol_le {m : List (List jE)} {v : List jE} (h : ∀ r ∈ m, r.length = v.length) (hv : v.length ≤ 64) : ∀ r ∈ m, r.length ≤ 64 := fun r hr => by have := h r hr; omega
theorem mcol_at {m : List (List jE)} {v : List jE} (h : ∀ r ∈ m, r.length = v.length) {i : Nat} (hi : i < m.length) : (m.getD i []).length = v.length := by
  rw [List.getD_eq_getElem?_getD, List.getElem?_eq_getElem hi]; exact h _ (List.getElem_mem _)
theorem rect_chk {m : List (List jE)} {r c : Nat} (h : mF m r c) : nE m = 0 := by
  have h1 := h.hr; have h2 := h.r1; have h3 := h.r64; have h4 := h.c1; have h5 := h.c64
  have h0 := (h.at (i := 0) h2).1
  refine mchk_3 ?_ ?_
  · unfold shpB
    simp only [Bool.or_eq_false_iff, decide_eq_false_iff_not]
    omega
  · rw [List.any_eq_false]
    intro l hl
    obtain ⟨q1, q2⟩ := h.hc l hl
    unfold xS
    rw [Bool.not_eq_true, Bool.or_eq_false_iff, Bool.not_eq_false', bne_eq_false_iff_eq]
    exact ⟨by omega, q2⟩
theorem ql_getD {xs : List Rat} {n : Nat} (h : ∀ q ∈ xs, QL q n) (h1 : 1 ≤ n) (j : Nat) : QL (xs.getD j 0) n := by
  rcases Nat.lt_or_ge j xs.length with hj | hj
  · rw [List.getD_eq_getElem?_getD, List.getElem?_eq_getElem hj]; exact h _ (List.getElem_mem _)
  · rw [List.getD_eq_getElem?_getD, List.getElem?_eq_none (by omega)]; exact yA aK h1
theorem pts_row {xs : List Rat} {n : Nat} (h : ∀ q ∈ xs, QL q n) (hl : xs.length ≤ 1000000) : zG n (List.map jT xs) := by
  refine ⟨fun a ha => ?_, by rw [List.length_map]; omega⟩
  obtain ⟨q, hq, rfl⟩ := List.mem_map.1 ha
  rw [gR]; exact kA (h q hq)
theorem pts_gl {xs : List Rat} {n : Nat} (h : ∀ q ∈ xs, QL q n) : ∀ y ∈ List.map cZ xs, GL n y := fun y hy => by
  obtain ⟨q, hq, rfl⟩ := List.mem_map.1 hy
  exact gl_pt (h q hq)
theorem fF {α β : Type} {f : α → β} {l : List α} {d : α} {i : Nat} (h : i < l.length) : (l.take i).map f ++ [f (l.getD i d)] = (l.take (i + 1)).map f := by
  rw [List.take_succ_eq_append_getElem h, List.map_append, List.getD_eq_getElem?_getD, List.getElem?_eq_getElem h]; rfl
theorem cmpQ_zero {a b : Rat} : xC a b = 0 ↔ a = b := by
  rw [← signQ_sub]
  show qY (a - b).num = 0 ↔ _
  rw [signQ_zero]
  constructor
  · intro h; grind
  · intro h; grind
theorem eqm_s {m : List (List jE)} {i j : Nat} (h : ∀ b, b < j → eqM m i b = true) (hc : xC (jN ((m.getD i []).getD j zr)) (jN ((m.getD j []).getD i zr)) = 0) : ∀ b, b < j + 1 → eqM m i b = true := fun b hb => by
  rcases Nat.lt_or_ge b j with h1 | h1
  · exact h b h1
  · obtain rfl : b = j := by omega
    exact decide_eq_true (cmpQ_zero.1 hc)
theorem eqm_f {m : List (List jE)} {i j : Nat} (hc : xC (jN ((m.getD i []).getD j zr)) (jN ((m.getD j []).getD i zr)) ≠ 0) : eqM m i j = false := decide_eq_false fun h => hc (cmpQ_zero.2 h)
theorem tms_at {N : Nat} {ts : List (List vT)} (h : ∀ t ∈ ts, ∀ x ∈ t, hH x.n (jN x.n) N) (i : Nat) : ∀ x ∈ ts.getD i [], hH x.n (jN x.n) N := by
  rcases Nat.lt_or_ge i ts.length with hj | hj
  · rw [List.getD_eq_getElem?_getD, List.getElem?_eq_getElem hj]; exact h _ (List.getElem_mem _)
  · rw [List.getD_eq_getElem?_getD, List.getElem?_eq_none (by omega)]; intro x hx; simp at hx
theorem tms_one {N : Nat} {t : List vT} (h : ∀ x ∈ t, hH x.n (jN x.n) N) : ∀ u ∈ [t], ∀ x ∈ u, hH x.n (jN x.n) N := fun u hu => by
  rw [List.mem_singleton] at hu; subst hu; exact h
theorem tms_jr {bx : List R2} {ts : List (List vT)} (h : ∀ t ∈ ts, JRun bx t) {i : Nat} (hi : i < ts.length) : JRun bx (ts.getD i []) := by
  rw [List.getD_eq_getElem?_getD, List.getElem?_eq_getElem hi]; exact h _ (List.getElem_mem _)
theorem tms_c0 {xs : List Rat} {ts : List (List vT)} (h : ∀ t ∈ ts, JRun (List.map cZ xs) t) {i : Nat} (hi : i < ts.length) : tmC ((xs.length : Nat) : Int) (ts.getD i []) = 0 := by
  have := (tms_jr h hi).c0
  rwa [List.length_map] at this
theorem grs_ok {xs : List Rat} {ts : List (List vT)} (h : ∀ t ∈ ts, JRun (List.map cZ xs) t) (hl : ts.length ≤ 64) : vR 1048576 (List.map (yX xs) ts) := by
  refine ⟨fun r hr => ?_, by rw [List.length_map]; omega⟩
  obtain ⟨t, ht, rfl⟩ := List.mem_map.1 hr
  exact grQ_ok (h t ht)
theorem rect_0 {m : List (List jE)} {r c : Nat} (h : mF m r c) : mF m m.length (m.getD 0 []).length := by
  have h1 := h.hr
  have h0 := (h.at (i := 0) h.r1).1
  rw [h0]
  exact ⟨rfl, h.hc, by have := h.r1; omega, by have := h.r64; omega, h.c1, h.c64⟩
theorem grs_at {xs : List Rat} {ts : List (List vT)} (h : ∀ t ∈ ts, JRun (List.map cZ xs) t) {i : Nat} (hi : i < (List.map (yX xs) ts).length) : ((List.map (yX xs) ts).getD i []).length = xs.length ∧ eT ((List.map (yX xs) ts).getD i []) = true := by
  rw [List.length_map] at hi
  rw [List.getD_eq_getElem?_getD, List.getElem?_map, List.getElem?_eq_getElem hi]
  exact ⟨grQ_len (h _ (List.getElem_mem _)), grQ_v⟩
theorem one_of {α : Type} {P : α → Prop} {x : α} (h : P x) : ∀ u ∈ [x], P u := fun u hu => by rw [List.mem_singleton] at hu; subst hu; exact h
def elB (m : List (List jE)) (i j k : Int) : Bool := ((((((decide (i < 0) || decide (((m.length : Nat) : Int) ≤ i)) || decide (j < 0)) || decide (((m.length : Nat) : Int) ≤ j)) || (i == j)) || decide (k < 0)) || decide (512 < k))
def fV (m : List (List jE)) (i j k : Int) : Nat := if nE m ≠ 0 then 1 else if gJ m m.length ≠ 0 then gJ m m.length else bif elB m i j k then 2 else 0
theorem ell_1 {m : List (List jE)} {i j k : Int} (h : ((nE m : Nat) : Int) ≠ 0) : fV m i j k = 1 := if_pos (by omega)
theorem ell_2 {m : List (List jE)} {i j k : Int} (h : ((nE m : Nat) : Int) = 0) (h2 : ((gJ m m.length : Nat) : Int) ≠ 0) : fV m i j k = gJ m m.length := by unfold fV; rw [if_neg (by omega), if_pos (by omega)]
theorem ell_3 {m : List (List jE)} {i j k : Int} (h : ((nE m : Nat) : Int) = 0) (h2 : ((gJ m m.length : Nat) : Int) = 0) (h3 : elB m i j k = true) : fV m i j k = 2 := by unfold fV; rw [if_neg (by omega), if_neg (by omega), h3]; rfl
theorem ell_0 {m : List (List jE)} {i j k : Int} (h : ((nE m : Nat) : Int) = 0) (h2 : ((gJ m m.length : Nat) : Int) = 0) (h3 : elB m i j k = false) : fV m i j k = 0 := by unfold fV; rw [if_neg (by omega), if_neg (by omega), h3]; rfl
theorem elB_of {m : List (List jE)} {i j k : Int} (h : elB m i j k = false) : 0 ≤ i ∧ i < m.length ∧ 0 ≤ j ∧ j < m.length ∧ i ≠ j ∧ 0 ≤ k ∧ k ≤ 512 := by
  unfold elB at h
  simp only [Bool.or_eq_false_iff, decide_eq_false_iff_not, beq_eq_false_iff_ne] at h
  obtain ⟨⟨⟨⟨⟨⟨h1, h2⟩, h3⟩, h4⟩, h5⟩, h6⟩, h7⟩ := h
  exact ⟨by omega, by omega, by omega, by omega, h5, by omega, by omega⟩
theorem nZ (a b : Rat) : 0 ≤ a * a + b * b := Rat.add_nonneg (rat_sq a) (rat_sq b)
theorem mem_at {α : Type} {P : List α → Prop} {ts : List (List α)} (h : ∀ t ∈ ts, P t) {i : Nat} (hi : i < ts.length) : P (ts.getD i []) := by
  rw [List.getD_eq_getElem?_getD, List.getElem?_eq_getElem hi]; exact h _ (List.getElem_mem _)
end Go.Proofs.YtnajallgoaiahaaGreatDoor
