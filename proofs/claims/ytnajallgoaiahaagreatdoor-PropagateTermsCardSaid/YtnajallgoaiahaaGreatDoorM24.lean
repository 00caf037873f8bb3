/- Part 24 of a proof: rules, plain facts, and functions walked. -/
import Derived.Test.YtnajallgoaiahaaGreatDoorM23
import Derived.Test.YtnajallgoaiahaaGreatDoorM20
import Derived.Test.YtnajallgoaiahaaGreatDoorM12
namespace Go.Fid
set_option linter.unusedVariables false
set_option linter.unusedSimpArgs false
section
variable {P : Program} {n : Fr} {ops : Array Oper} {K : SL → BS → Prop} {S : SL} {B : BS} {o : Oper} {l : List Oper} {T E t' : TypeId} {x y : Operand} {k s m bytes : Nat} {zv : List Value} {α : Type}
theorem zAmS (j i : Nat) {cs : List SV} (F : α → kA) (L L' : List α) (hL : L.length = m) (hT : uZ P T = some (E, s)) (hz : xH P E = some zv) (hby : xW P E = some bytes) (r : SK P n ops K ((dO o, .own k E s (L ++ L').length) :: gV k S) ((k, some (qQ F (L ++ L'))) :: (j, some (cs.set i .junk)) :: B) l)
    (ho : o.op = .call { callee := .builtin .append, args := #[x, y], argTypes := #[T, T] } := by exact rfl) (g : goK n ops S o = true := by kernel_rfl) (hx : ev (kG S) x = .own k E s m := by exact rfl) (hj : kF B j = some cs := by exact rfl) (hjk : Nat.beq j k = false := by kernel_rfl) (hb : kF B k = some (qQ F L) := by kernel_rfl) (hy : ev (kG S) y = .d (.sl t' s (L'.map F)) := by exact rfl) (hF : ∀ g, (F g).cells.length = s := by intro g; kernel_rfl) (hzl : zv.length = s := by kernel_rfl)
    (hbig : m + L'.length ≤ maxLen := by first | (simp only [List.length_cons, List.length_nil, maxLen]; omega) | (simp [maxLen]; omega)) (hbig' : (m + L'.length) * bytes ≤ 140737488355328 := by first | omega | (simp only [List.length_cons, List.length_nil]; omega) | (simp; omega))
    (hm : qI k (cs.set i .junk) = false := by kernel_rfl) (hB : Clr k ((j, none) :: B) := by refine cC ?_; repeat first | exact fM _ | refine eS ?_ | refine bX ?_ | refine cC ?_ | refine clr_bx ?_ | refine clr_d ?_) : SK P n ops K S B (o :: l) := by
  obtain ⟨hd, hg, hdB⟩ := zJ g
  have hne : j ≠ k := cB hjk
  refine zX (S1 := (dO o, .own k E s (L ++ L').length) :: gV k S) (B1 := (k, some (qQ F (L ++ L'))) :: (j, some (cs.set i .junk)) :: B) (fun C a w Q hn hs => ?_) hg r
  have hs' := sim_mask i hj C a w hs
  have := app_sound (st := ⟨S, (j, some (cs.set i .junk)) :: B⟩) (N := n) (es := L.map F) (es' := L'.map F) ho (by rw [hd]; exact hdB) hT hz hzl hby hx (by show kF ((j, _) :: B) k = _; rw [jL, if_neg hne]; exact hb) rfl (by rw [nE F hF, hL]) hy (by simpa using hbig) (by simpa using hbig') (fun q c hq hc => by
    dsimp only at hc
    rw [jL] at hc
    split at hc
    · injection hc with hc; subst hc; exact hm
    · rename_i e; exact hB q c hq (by rw [jL, if_neg e]; exact hc)) C a w Q hn hs'
  have e2 : m + (L'.map F).length = (L ++ L').length := by rw [List.length_map, List.length_append, hL]
  rw [hd, ← List.map_append, e2] at this
  exact this
end
end Go.Fid
namespace Go.Proofs.YtnajallgoaiahaaGreatDoor
open Go.Fid
set_option maxRecDepth 4000
set_option linter.unusedVariables false
set_option linter.unusedSimpArgs false
theorem by83 : xW Tryz.prog 83 = some 88 := by kernel_rfl
theorem cb123 : callB Tryz.prog 123 = true := by kernel_rfl
theorem aF : uZ Tryz.prog 23 = some (83, 7) := by kernel_rfl
theorem fo153_0 : vR Tryz.prog 153 0 = some 0 := by kernel_rfl
theorem pl83 : mT Tryz.prog 83 = some [(0, 1), (1, 1), (2, 1), (3, 4)] := by kernel_rfl
theorem sh23 : qL Tryz.prog 23 = some (false, 1) := by kernel_rfl
theorem ze83 : xH Tryz.prog 83 = some [.int .i64 0, .int .i64 0, .int .i64 0, .bool false, .slice none 0 0, .bool false, .slice none 0 0] := by kernel_rfl
theorem zo83 : eC [.int .i64 0, .int .i64 0, .int .i64 0, .bool false, .slice none 0 0, .bool false, .slice none 0 0] [.val (.int .i64 0), .val (.int .i64 0), .val (.int .i64 0), .val (.bool false), .sl 140 1 [], .val (.bool false), .sl 140 1 []] := by simp [eC, Value.oneCell']
theorem dR (o : Int) (a : Int) (b : Int) (L : List kK) (hl : L.length ≤ 1000000) : gB Tryz.prog 123 [(.ref 0 0), (vi o), (vi a), (vi b)] [(0, some [(.own 1 83 7 L.length)]), (1, some (qQ jS L))] (.d (.val (.int .i64 (((L.length : Nat) : Int))))) [(0, some [(.own 1 83 7 ((L ++ [kK.mk o a b kW]).length))]), (1, some (qQ jS (L ++ [kK.mk o a b kW])))] := by
 refine nN Tryz.func123 rfl cb123 rfl ?_
 show qR _ _ _ _ ⟨[(0, (.ref 0 0)), (1, (vi o)), (2, (vi a)), (3, (vi b))], [(0, some [(.own 1 83 7 L.length)]), (1, some (qQ jS L))]⟩
 refine jB<|kx [] [] (zM<|zZ) ?_
 refine jB<|kf [] [(0, some [(.own 1 83 7 ((L ++ [(kK.mk o a b kW)]).length))]), (1, some (qQ jS (L ++ [(kK.mk o a b kW)])))] (zM<|zM<|zE oNc<|zE (qD fo153_0)<|zR (uL sh23)<|zM<|zM<|zM<|zE (bS pl83 ze83 zo83)<|zE (gN aF ze83 zo83)<|zAmS 0 0 jS L [(kK.mk o a b kW)] rfl aF ze83 by83 (hB := by repeat first | exact clrn_nil _ _ | refine clrn_hide ?_ | refine clrn_self ?_ | refine clrn_map ?_ | refine clrn_none ?_ | refine clrn_bx ?_ | refine clrn_d ?_ | refine clrn_cons rfl ?_) (k := 1)<|zE oNc<|zE (qD fo153_0)<|zT (oSx sh23)<|zF) ?_
 refine jB<|kx [(8, (jN L.length))] [] (zM<|zE oNc<|zE (qD fo153_0)<|zR (uL sh23)<|zE (oLo aF)<|zE (oSb L.length (hr := by exact (by rw [List.length_append, List.length_singleton]; exact wNat (by omega) (by simp only [kHiN]; omega) (by decide))))<|zM<|zZ) ?_
 refine jE ⟨nZ (by kernel_rfl), dB (by kernel_rfl), .inl ⟨_, (.tmp (d := (.val (.int .i64 (((L.length : Nat) : Int))))) rfl .nil), ?_⟩⟩
 rfl
theorem cb179 : callB Tryz.prog 179 = true := by kernel_rfl
theorem e_diff (a : Int) (b : Int) (L : List kK) (hl : L.length ≤ 100000) : gB Tryz.prog 179 [(.ref 0 0), (vi a), (vi b)] [(0, some [(.own 1 83 7 L.length)]), (1, some (qQ jS L))] (.d (.val (.int .i64 (((((L ++ [(kK.mk 1 a 0 kW)]) ++ [(kK.mk 1 b 0 kW)]).length : Nat) : Int))))) [(0, some [(.own 1 83 7 ((((L ++ [(kK.mk 1 a 0 kW)]) ++ [(kK.mk 1 b 0 kW)]) ++ [(kK.mk 3 ((L.length : Nat) : Int) (((L ++ [(kK.mk 1 a 0 kW)]).length : Nat) : Int) kW)]).length))]), (1, some (qQ jS (((L ++ [(kK.mk 1 a 0 kW)]) ++ [(kK.mk 1 b 0 kW)]) ++ [(kK.mk 3 ((L.length : Nat) : Int) (((L ++ [(kK.mk 1 a 0 kW)]).length : Nat) : Int) kW)])))] := by
 let y1 := kW
 refine nN Tryz.func179 rfl cb179 rfl ?_
 show qR _ _ _ _ ⟨[(0, (.ref 0 0)), (1, (vi a)), (2, (vi b))], [(0, some [(.own 1 83 7 L.length)]), (1, some (qQ jS L))]⟩
 refine jB<|kx [] [] (zM<|zZ) ?_
 refine jB<|kf [(6, (jN (((L ++ [kK.mk 1 a 0 y1]) ++ [kK.mk 1 b 0 y1]).length)))] [(0, some [(.own 1 83 7 ((((L ++ [kK.mk 1 a 0 y1]) ++ [kK.mk 1 b 0 y1]) ++ [kK.mk 3 ((L.length : Nat) : Int) (((L ++ [kK.mk 1 a 0 y1]).length : Nat) : Int) y1]).length))]), (1, some (qQ jS (((L ++ [kK.mk 1 a 0 y1]) ++ [kK.mk 1 b 0 y1]) ++ [kK.mk 3 ((L.length : Nat) : Int) (((L ++ [kK.mk 1 a 0 y1]).length : Nat) : Int) y1])))] (zM<|zM<|zM<|zS (B2 := [(0, some [(.own 1 83 7 L.length)]), (1, some (qQ jS L))]) (B2' := [(0, some [(.own 1 83 7 ((L ++ [kK.mk 1 a 0 y1]).length))]), (1, some (qQ jS (L ++ [kK.mk 1 a 0 y1])))]) (M := 1000000) [0, 1] [0] (dR 1 a 0 L (by first | omega | (simp only [List.length_append, List.length_cons, List.length_nil] <;> omega))) (.cons (by exact rfl) (by kernel_rfl) (.cons (by exact rfl) (qV _ _) .nil)) (.cons (by exact rfl) (by kernel_rfl) (.cons (by exact rfl) (qV _ _) .nil)) (by repeat first | exact .nil | refine .hid rfl ?_ | refine .map rfl ?_ | refine .dat rfl ?_ | refine .none rfl ?_ | refine .cells rfl rfl ?_)<|zM<|zM<|zS (B2 := [(0, some [(.own 1 83 7 ((L ++ [kK.mk 1 a 0 y1]).length))]), (1, some (qQ jS (L ++ [kK.mk 1 a 0 y1])))]) (B2' := [(0, some [(.own 1 83 7 (((L ++ [kK.mk 1 a 0 y1]) ++ [kK.mk 1 b 0 y1]).length))]), (1, some (qQ jS ((L ++ [kK.mk 1 a 0 y1]) ++ [kK.mk 1 b 0 y1])))]) (M := 1000000) [0, 1] [0] (dR 1 b 0 (L ++ [kK.mk 1 a 0 y1]) (by first | omega | (simp only [List.length_append, List.length_cons, List.length_nil] <;> omega))) (.cons (by exact rfl) (by kernel_rfl) (.cons (by exact rfl) (qV _ _) .nil)) (.cons (by exact rfl) (by kernel_rfl) (.cons (by exact rfl) (qV _ _) .nil)) (by repeat first | exact .nil | refine .hid rfl ?_ | refine .map rfl ?_ | refine .dat rfl ?_ | refine .none rfl ?_ | refine .cells rfl rfl ?_)<|zS (B2 := [(0, some [(.own 1 83 7 (((L ++ [kK.mk 1 a 0 y1]) ++ [kK.mk 1 b 0 y1]).length))]), (1, some (qQ jS ((L ++ [kK.mk 1 a 0 y1]) ++ [kK.mk 1 b 0 y1])))]) (B2' := [(0, some [(.own 1 83 7 ((((L ++ [kK.mk 1 a 0 y1]) ++ [kK.mk 1 b 0 y1]) ++ [kK.mk 3 ((L.length : Nat) : Int) (((L ++ [kK.mk 1 a 0 y1]).length : Nat) : Int) y1]).length))]), (1, some (qQ jS (((L ++ [kK.mk 1 a 0 y1]) ++ [kK.mk 1 b 0 y1]) ++ [kK.mk 3 ((L.length : Nat) : Int) (((L ++ [kK.mk 1 a 0 y1]).length : Nat) : Int) y1])))]) (M := 1000000) [0, 1] [0] (dR 3 ((L.length : Nat) : Int) (((L ++ [kK.mk 1 a 0 y1]).length : Nat) : Int) ((L ++ [kK.mk 1 a 0 y1]) ++ [kK.mk 1 b 0 y1]) (by first | omega | (simp only [List.length_append, List.length_cons, List.length_nil] <;> omega))) (.cons (by exact rfl) (by kernel_rfl) (.cons (by exact rfl) (qV _ _) .nil)) (.cons (by exact rfl) (by kernel_rfl) (.cons (by exact rfl) (qV _ _) .nil)) (by repeat first | exact .nil | refine .hid rfl ?_ | refine .map rfl ?_ | refine .dat rfl ?_ | refine .none rfl ?_ | refine .cells rfl rfl ?_)<|zM<|zF) ?_
 refine jE ⟨nZ (by kernel_rfl), dB (by kernel_rfl), .inl ⟨_, (.tmp (d := (.val (.int .i64 (((((L ++ [kK.mk 1 a 0 kW]) ++ [kK.mk 1 b 0 kW]).length : Nat) : Int))))) rfl .nil), ?_⟩⟩
 rfl
end Go.Proofs.YtnajallgoaiahaaGreatDoor
namespace Go.Fid
set_option linter.unusedVariables false
set_option linter.unusedSimpArgs false
def xV (o : Int) : Int := if o = 0 ∨ o = 1 then 0 else if o = 6 ∨ o = 7 then 1 else if o = 2 ∨ o = 3 ∨ o = 4 ∨ o = 5 then 2 else -1
theorem aP (o : Int) : (xV o = 0 ∧ (o = 0 ∨ o = 1)) ∨ (xV o = 1 ∧ (o = 6 ∨ o = 7)) ∨ (xV o = 2 ∧ (o = 2 ∨ o = 3 ∨ o = 4 ∨ o = 5)) ∨ (xV o = -1 ∧ ¬ (o = 0 ∨ o = 1) ∧ ¬ (o = 6 ∨ o = 7) ∧ ¬ (o = 2 ∨ o = 3 ∨ o = 4 ∨ o = 5)) := by
  unfold xV
  by_cases h1 : o = 0 ∨ o = 1
  · exact .inl ⟨if_pos h1, h1⟩
  by_cases h2 : o = 6 ∨ o = 7
  · exact .inr (.inl ⟨by rw [if_neg h1, if_pos h2], h2⟩)
  by_cases h3 : o = 2 ∨ o = 3 ∨ o = 4 ∨ o = 5
  · exact .inr (.inr (.inl ⟨by rw [if_neg h1, if_neg h2, if_pos h3], h3⟩))
  · exact .inr (.inr (.inr ⟨by rw [if_neg h1, if_neg h2, if_neg h3], h1, h2, h3⟩))
def unsB (x : kD) : Bool := ((!x.num.neg && !x.den.neg) && (((x.num.gs.length : Nat) : Int) == 0)) && (((x.den.gs.length : Nat) : Int) == 0)
theorem uns_eq {x : kD} (h : unsB x = true) : x = zr := by
  obtain ⟨⟨n, g⟩, ⟨m, d⟩⟩ := x
  unfold unsB at h
  simp only [Bool.and_eq_true, Bool.not_eq_true', beq_iff_eq] at h
  obtain ⟨⟨⟨h1, h2⟩, h3⟩, h4⟩ := h
  have e3 : g = [] := List.eq_nil_of_length_eq_zero (by omega)
  have e4 : d = [] := List.eq_nil_of_length_eq_zero (by omega)
  subst h1; subst h2; subst e3; subst e4
  rfl
theorem uns_zr : unsB zr = true := rfl
def cO (x : kK) : Prop := xV x.op < 0 ∨ (xV x.op < 2 ∧ x.b ≠ 0) ∨ (x.op = 0 ∧ (x.a ≠ 0 ∨ kN x.n = false)) ∨ (x.op ≠ 0 ∧ unsB x.n = false)
instance (x : kK) : Decidable (cO x) := by unfold cO; infer_instance
def bB (k : Int) (x : kK) : Prop := (0 < xV x.op ∧ (x.a < 0 ∨ k ≤ x.a)) ∨ (1 < xV x.op ∧ (x.b < 0 ∨ k ≤ x.b))
instance (k : Int) (x : kK) : Decidable (bB k x) := by unfold bB; infer_instance
def rngN (z : Int) (x : kK) : Prop := x.op = 1 ∧ (x.a < 0 ∨ z ≤ x.a)
instance (z : Int) (x : kK) : Decidable (rngN z x) := by unfold rngN; infer_instance
def bN (ss : List Int) (x : kK) : Int := if xV x.op = 0 then 1 else if x.op = 6 then ss.getD x.a.toNat 0 else if x.op = 7 then 2 * ss.getD x.a.toNat 0 else ss.getD x.a.toNat 0 + ss.getD x.b.toNat 0
def ndC (z : Int) (ss : List Int) (x : kK) : Nat := if cO x then 1 else if bB ((ss.length : Nat) : Int) x then 5 else if rngN z x then 2 else if 4096 < bN ss x then 3 else 0
def cG (t : List kK) : Nat → List Int
  | 0 => []
  | k + 1 => cG t k ++ [bN (cG t k) (t.getD k tz)]
theorem mA (t : List kK) : ∀ k, (cG t k).length = k
  | 0 => rfl
  | k + 1 => by rw [cG, List.length_append, mA t k]; rfl
def szUp (z : Int) (t : List kK) (k : Nat) : Prop := ∀ i, i < k → ndC z (cG t i) (t.getD i tz) = 0
theorem szUp_0 (z : Int) (t : List kK) : szUp z t 0 := fun i h => by omega
theorem szUp_s {z : Int} {t : List kK} {k : Nat} (h : szUp z t k) (hk : ndC z (cG t k) (t.getD k tz) = 0) : szUp z t (k + 1) := fun i hi => by
  rcases Nat.lt_or_ge i k with h1 | h1
  · exact h i h1
  · obtain rfl : i = k := by omega
    exact hk
def szE (z : Int) (t : List kK) : Nat → Nat → Nat
  | 0, _ => 0
  | f + 1, k => if ndC z (cG t k) (t.getD k tz) = 0 then szE z t f (k + 1) else ndC z (cG t k) (t.getD k tz)
def eY (z : Int) (t : List kK) : Nat := if z < 0 ∨ 64 < z then 2 else if t.length = 0 then 1 else if 400 < t.length then 3 else szE z t t.length 0
def tmL (z : Int) (t : List kK) : List Int := if eY z t = 0 then cG t t.length else []
theorem szE_0 {z : Int} {t : List kK} : ∀ {f k : Nat}, szE z t f k = 0 ↔ ∀ i, k ≤ i → i < k + f → ndC z (cG t i) (t.getD i tz) = 0
  | 0, k => by simp only [szE, true_iff]; intro i h1 h2; omega
  | f + 1, k => by
    unfold szE
    constructor
    · intro h i h1 h2
      split at h
      · rename_i h0
        rcases Nat.lt_or_ge k i with h3 | h3
        · exact szE_0.1 h i (by omega) (by omega)
        · obtain rfl : i = k := by omega
          exact h0
      · rename_i h0; exact absurd h h0
    · intro h
      rw [if_pos (h k (Nat.le_refl _) (by omega))]
      exact szE_0.2 fun i h1 h2 => h i (by omega) (by omega)
theorem szE_at {z : Int} {t : List kK} {m : Nat} (hm : ndC z (cG t m) (t.getD m tz) ≠ 0) : ∀ {f k : Nat}, k ≤ m → m < k + f → (∀ i, k ≤ i → i < m → ndC z (cG t i) (t.getD i tz) = 0) → szE z t f k = ndC z (cG t m) (t.getD m tz)
  | 0, k, h1, h2, _ => by omega
  | f + 1, k, h1, h2, h => by
    unfold szE
    rcases Nat.lt_or_ge k m with h3 | h3
    · rw [if_pos (h k (Nat.le_refl _) h3)]
      exact szE_at hm (by omega) (by omega) fun i a b => h i (by omega) b
    · obtain rfl : k = m := by omega
      rw [if_neg hm]
theorem tm_1 {z : Int} {t : List kK} (h : z < 0 ∨ 64 < z) : eY z t = 2 := if_pos h
theorem tm_2 {z : Int} {t : List kK} (h : ¬ (z < 0 ∨ 64 < z)) (h1 : t.length = 0) : eY z t = 1 := by unfold eY; rw [if_neg h, if_pos h1]
theorem tm_3 {z : Int} {t : List kK} (h : ¬ (z < 0 ∨ 64 < z)) (h1 : t.length ≠ 0) (h2 : 400 < t.length) : eY z t = 3 := by unfold eY; rw [if_neg h, if_neg h1, if_pos h2]
theorem tm_e {z : Int} {t : List kK} (h : ¬ (z < 0 ∨ 64 < z)) (h1 : t.length ≠ 0) (h2 : ¬ 400 < t.length) : eY z t = szE z t t.length 0 := by unfold eY; rw [if_neg h, if_neg h1, if_neg h2]
theorem tm_no {z : Int} {t : List kK} {k : Nat} (h : ¬ (z < 0 ∨ 64 < z)) (h1 : k < t.length) (h2 : ¬ 400 < t.length) (hu : szUp z t k) (hc : ndC z (cG t k) (t.getD k tz) ≠ 0) : eY z t = ndC z (cG t k) (t.getD k tz) ∧ tmL z t = [] := by
  have e : eY z t = ndC z (cG t k) (t.getD k tz) := by
    rw [tm_e h (by omega) h2]
    exact szE_at hc (by omega) (by omega) fun i _ hi => hu i hi
  exact ⟨e, if_neg (by rw [e]; exact hc)⟩
theorem tm_yes {z : Int} {t : List kK} (h : ¬ (z < 0 ∨ 64 < z)) (h1 : t.length ≠ 0) (h2 : ¬ 400 < t.length) (hu : szUp z t t.length) : eY z t = 0 ∧ tmL z t = cG t t.length := by
  have e : eY z t = 0 := by
    rw [tm_e h h1 h2]
    exact szE_0.2 fun i _ hi => hu i (by omega)
  exact ⟨e, if_pos e⟩
theorem tm_n {z : Int} {t : List kK} (h : eY z t ≠ 0) : tmL z t = [] := if_neg h
theorem tm_0 {z : Int} {t : List kK} (h : eY z t = 0) : 0 ≤ z ∧ z ≤ 64 ∧ t.length ≠ 0 ∧ t.length ≤ 400 ∧ szUp z t t.length := by
  by_cases h0 : z < 0 ∨ 64 < z
  · rw [tm_1 h0] at h; cases h
  by_cases h1 : t.length = 0
  · rw [tm_2 h0 h1] at h; cases h
  by_cases h2 : 400 < t.length
  · rw [tm_3 h0 h1 h2] at h; cases h
  rw [tm_e h0 h1 h2] at h
  exact ⟨by omega, by omega, h1, by omega, fun i hi => szE_0.1 h i (by omega) (by omega)⟩
theorem nd_0 {z : Int} {ss : List Int} {x : kK} (h : ndC z ss x = 0) : ¬ cO x ∧ ¬ bB ((ss.length : Nat) : Int) x ∧ ¬ rngN z x ∧ bN ss x ≤ 4096 := by
  unfold ndC at h
  split at h
  · cases h
  · rename_i h1
    split at h
    · cases h
    · rename_i h2
      split at h
      · cases h
      · rename_i h3
        split at h
        · cases h
        · rename_i h4
          exact ⟨h1, h2, h3, by omega⟩
theorem nd_1 {z : Int} {ss : List Int} {x : kK} (h : cO x) : ndC z ss x = 1 := if_pos h
theorem nd_5 {z : Int} {ss : List Int} {x : kK} (h : ¬ cO x) (h2 : bB ((ss.length : Nat) : Int) x) : ndC z ss x = 5 := by unfold ndC; rw [if_neg h, if_pos h2]
theorem nd_2 {z : Int} {ss : List Int} {x : kK} (h : ¬ cO x) (h2 : ¬ bB ((ss.length : Nat) : Int) x) (h3 : rngN z x) : ndC z ss x = 2 := by unfold ndC; rw [if_neg h, if_neg h2, if_pos h3]
theorem nd_3 {z : Int} {ss : List Int} {x : kK} (h : ¬ cO x) (h2 : ¬ bB ((ss.length : Nat) : Int) x) (h3 : ¬ rngN z x) (h4 : 4096 < bN ss x) : ndC z ss x = 3 := by unfold ndC; rw [if_neg h, if_neg h2, if_neg h3, if_pos h4]
theorem nd_y {z : Int} {ss : List Int} {x : kK} (h : ¬ cO x) (h2 : ¬ bB ((ss.length : Nat) : Int) x) (h3 : ¬ rngN z x) (h4 : ¬ 4096 < bN ss x) : ndC z ss x = 0 := by unfold ndC; rw [if_neg h, if_neg h2, if_neg h3, if_neg h4]
theorem sz_rng {z : Int} {t : List kK} : ∀ {k : Nat}, szUp z t k → ∀ j, j < k → 1 ≤ (cG t k).getD j 0 ∧ (cG t k).getD j 0 ≤ 4096
  | 0, _, j, h => by omega
  | k + 1, hu, j, hj => by
    have ih := sz_rng (k := k) (fun i hi => hu i (by omega))
    have hl := mA t k
    obtain ⟨h1, h2, h3, h4⟩ := nd_0 (hu k (by omega))
    rw [hl] at h2
    unfold cG
    rcases Nat.lt_or_ge j k with h | h
    · rw [List.getD_eq_getElem?_getD, List.getElem?_append_left (by omega), ← List.getD_eq_getElem?_getD]
      exact ih j h
    · obtain rfl : j = k := by omega
      rw [List.getD_eq_getElem?_getD, List.getElem?_append_right (by omega), hl, Nat.sub_self]
      show 1 ≤ bN (cG t j) (t.getD j tz) ∧ bN (cG t j) (t.getD j tz) ≤ 4096
      refine ⟨?_, h4⟩
      have hA : ∀ a : Int, 0 ≤ a → a < j → 1 ≤ (cG t j).getD a.toNat 0 := fun a q1 q2 => (ih a.toNat (by omega)).1
      generalize t.getD j tz = x at *
      unfold bN bB cO at *
      rcases aP x.op with ⟨e, _⟩ | ⟨e, f⟩ | ⟨e, f⟩ | ⟨e, _⟩
      · rw [if_pos e]; exact Int.le_refl _
      · have ha := hA x.a (by omega) (by omega)
        rw [if_neg (by omega)]
        split
        · exact ha
        · split <;> omega
      · have ha := hA x.a (by omega) (by omega)
        have hb := hA x.b (by omega) (by omega)
        rw [if_neg (by omega), if_neg (by omega), if_neg (by omega)]
        omega
      · omega
def szI (t : List kK) (k : Nat) (o : List Int) : Prop := o.length = t.length ∧ o.take k = cG t k
theorem szI_0 {t : List kK} : szI t 0 (List.replicate t.length 0) := ⟨List.length_replicate, rfl⟩
theorem szI.at {t : List kK} {k : Nat} {o : List Int} (h : szI t k o) {j : Nat} (hj : j < k) (hk : k ≤ t.length) : o.getD j 0 = (cG t k).getD j 0 := by
  rw [← h.2, List.getD_eq_getElem?_getD, List.getD_eq_getElem?_getD, List.getElem?_take_of_lt hj]
theorem szI.put {t : List kK} {k : Nat} {o : List Int} (h : szI t k o) (hk : k < t.length) {v : Int} (hv : v = bN (cG t k) (t.getD k tz)) : szI t (k + 1) (o.set k v) := by
  refine ⟨by rw [List.length_set]; exact h.1, ?_⟩
  have hl := h.1
  rw [List.take_succ_eq_append_getElem (by rw [List.length_set]; omega), List.getElem_set_self, List.take_set_of_le (Nat.le_refl k), h.2, cG, hv]
theorem set_getD {o : List Int} {k : Nat} {v : Int} (h : k < o.length) : (o.set k v).getD k 0 = v := by
  rw [List.getD_eq_getElem?_getD, List.getElem?_set_self h]; rfl
theorem szI_end {t : List kK} {o : List Int} (h : szI t t.length o) : o = cG t t.length := by
  rw [← h.2, ← h.1, List.take_length]
def badB (x : kK) : Bool := (((decide (xV x.op < 0) || (decide (xV x.op < 2) && (x.b != 0))) || ((x.op == 0) && ((x.a != 0) || !(kN x.n)))) || ((x.op != 0) && !(unsB x.n)))
def ordB (k : Int) (x : kK) : Bool := ((decide (0 < xV x.op) && (decide (x.a < 0) || decide (k ≤ x.a))) || (decide (1 < xV x.op) && (decide (x.b < 0) || decide (k ≤ x.b))))
def rngB (z : Int) (x : kK) : Bool := ((x.op == 1) && (decide (x.a < 0) || decide (z ≤ x.a)))
theorem bA {x : kK} : badB x = true ↔ cO x := by
  unfold badB cO
  simp only [Bool.or_eq_true, Bool.and_eq_true, decide_eq_true_eq, beq_iff_eq, bne_iff_ne, Bool.not_eq_true', ne_eq, or_assoc]
theorem ordB_iff {k : Int} {x : kK} : ordB k x = true ↔ bB k x := by
  unfold ordB bB
  simp only [Bool.or_eq_true, Bool.and_eq_true, decide_eq_true_eq]
theorem rngB_iff {k : Int} {x : kK} : rngB k x = true ↔ rngN k x := by
  unfold rngB rngN
  simp only [Bool.or_eq_true, Bool.and_eq_true, decide_eq_true_eq, beq_iff_eq]
theorem not_of {b : Bool} {p : Prop} (h : b = true ↔ p) (hb : b = false) : ¬ p := fun q => by rw [h.2 q] at hb; cases hb
structure TmR (z : Int) (t : List kK) (k : Nat) : Prop where
  z0 : ¬ (z < 0 ∨ 64 < z)
  kl : k < t.length
  tl : ¬ 400 < t.length
  up : szUp z t k
theorem tmr {z : Int} {t : List kK} {k : Nat} (h : (decide (z < 0) || decide (64 < z)) = false) (h1 : ((k : Nat) : Int) < ((t.length : Nat) : Int)) (h2 : ¬ 400 < ((t.length : Nat) : Int)) (hu : szUp z t k) : TmR z t k := by
  rw [Bool.or_eq_false_iff, decide_eq_false_iff_not, decide_eq_false_iff_not] at h
  exact ⟨by omega, by omega, by omega, hu⟩
theorem zb_t {z : Int} {t : List kK} (h : (decide (z < 0) || decide (64 < z)) = true) : eY z t = 2 ∧ tmL z t = [] := by
  rw [Bool.or_eq_true, decide_eq_true_eq, decide_eq_true_eq] at h
  have e := tm_1 (t := t) h
  exact ⟨e, tm_n (by rw [e]; decide)⟩
theorem zb_f {z : Int} (h : (decide (z < 0) || decide (64 < z)) = false) : ¬ (z < 0 ∨ 64 < z) := by
  rw [Bool.or_eq_false_iff, decide_eq_false_iff_not, decide_eq_false_iff_not] at h
  omega
theorem tm_l0 {z : Int} {t : List kK} (h : (decide (z < 0) || decide (64 < z)) = false) (h1 : t.length = 0) : eY z t = 1 ∧ tmL z t = [] := by
  have e := tm_2 (zb_f h) h1
  exact ⟨e, tm_n (by rw [e]; decide)⟩
theorem tm_lb {z : Int} {t : List kK} (h : (decide (z < 0) || decide (64 < z)) = false) (h1 : 400 < t.length) : eY z t = 3 ∧ tmL z t = [] := by
  have e := tm_3 (zb_f h) (by omega) h1
  exact ⟨e, tm_n (by rw [e]; decide)⟩
theorem TmR.bad {z : Int} {t : List kK} {k : Nat} (h : TmR z t k) (hb : badB (t.getD k tz) = true) : eY z t = 1 ∧ tmL z t = [] := by
  have e := nd_1 (z := z) (ss := cG t k) (bA.1 hb)
  have := tm_no h.z0 h.kl h.tl h.up (by rw [e]; decide)
  rwa [e] at this
theorem TmR.ord {z : Int} {t : List kK} {k : Nat} (h : TmR z t k) (hb : badB (t.getD k tz) = false) (ho : ordB ((k : Nat) : Int) (t.getD k tz) = true) : eY z t = 5 ∧ tmL z t = [] := by
  have e := nd_5 (z := z) (ss := cG t k) (not_of bA hb) (by rw [mA]; exact ordB_iff.1 ho)
  have := tm_no h.z0 h.kl h.tl h.up (by rw [e]; decide)
  rwa [e] at this
theorem TmR.rng {z : Int} {t : List kK} {k : Nat} (h : TmR z t k) (hb : badB (t.getD k tz) = false) (ho : ordB ((k : Nat) : Int) (t.getD k tz) = false) (hr : rngB z (t.getD k tz) = true) : eY z t = 2 ∧ tmL z t = [] := by
  have e := nd_2 (z := z) (ss := cG t k) (not_of bA hb) (by rw [mA]; exact not_of ordB_iff ho) (rngB_iff.1 hr)
  have := tm_no h.z0 h.kl h.tl h.up (by rw [e]; decide)
  rwa [e] at this
structure NdR (z : Int) (t : List kK) (k : Nat) : Prop where
  tm : TmR z t k
  bad : ¬ cO (t.getD k tz)
  ord : ¬ bB ((k : Nat) : Int) (t.getD k tz)
  rng : ¬ rngN z (t.getD k tz)
theorem ndr {z : Int} {t : List kK} {k : Nat} (h : TmR z t k) (hb : badB (t.getD k tz) = false) (ho : ordB ((k : Nat) : Int) (t.getD k tz) = false) (hr : rngB z (t.getD k tz) = false) : NdR z t k := ⟨h, not_of bA hb, not_of ordB_iff ho, not_of rngB_iff hr⟩
theorem NdR.big {z : Int} {t : List kK} {k : Nat} (h : NdR z t k) {v : Int} (hv : v = bN (cG t k) (t.getD k tz)) {o : List Int} (ho : k < o.length) (hb : 4096 < (o.set k v).getD k 0) : eY z t = 3 ∧ tmL z t = [] := by
  rw [set_getD ho, hv] at hb
  have e := nd_3 (z := z) (ss := cG t k) h.bad (by rw [mA]; exact h.ord) h.rng hb
  have := tm_no h.tm.z0 h.tm.kl h.tm.tl h.tm.up (by rw [e]; decide)
  rwa [e] at this
theorem NdR.next {z : Int} {t : List kK} {k : Nat} (h : NdR z t k) {v : Int} (hv : v = bN (cG t k) (t.getD k tz)) {o : List Int} (ho : szI t k o) (hb : ¬ 4096 < (o.set k v).getD k 0) : k + 1 ≤ t.length ∧ szI t (k + 1) (o.set k v) ∧ szUp z t (k + 1) := by
  have hl := ho.1
  have hk := h.tm.kl
  rw [set_getD (by omega), hv] at hb
  exact ⟨hk, ho.put hk hv, szUp_s h.tm.up (nd_y h.bad (by rw [mA]; exact h.ord) h.rng hb)⟩
theorem NdR.kd {z : Int} {t : List kK} {k : Nat} (h : NdR z t k) : 0 ≤ xV (t.getD k tz).op := by
  have := h.bad; unfold cO at this; omega
theorem NdR.a {z : Int} {t : List kK} {k : Nat} (h : NdR z t k) {o : List Int} (ho : szI t k o) (h0 : xV (t.getD k tz).op ≠ 0) :
    0 ≤ (t.getD k tz).a ∧ (t.getD k tz).a.toNat < k ∧ o.getD (t.getD k tz).a.toNat 0 = (cG t k).getD (t.getD k tz).a.toNat 0 ∧ 1 ≤ o.getD (t.getD k tz).a.toNat 0 ∧ o.getD (t.getD k tz).a.toNat 0 ≤ 4096 := by
  have h1 := h.kd
  have h2 := h.ord
  unfold bB at h2
  have ha : (t.getD k tz).a.toNat < k := by omega
  have e := ho.at ha (by have := h.tm.kl; omega)
  have r := sz_rng h.tm.up _ ha
  rw [← e] at r
  exact ⟨by omega, ha, e, r⟩
theorem NdR.b {z : Int} {t : List kK} {k : Nat} (h : NdR z t k) {o : List Int} (ho : szI t k o) (h0 : xV (t.getD k tz).op ≠ 0) (h6 : (t.getD k tz).op ≠ 6) (h7 : (t.getD k tz).op ≠ 7) :
    0 ≤ (t.getD k tz).b ∧ (t.getD k tz).b.toNat < k ∧ o.getD (t.getD k tz).b.toNat 0 = (cG t k).getD (t.getD k tz).b.toNat 0 ∧ 1 ≤ o.getD (t.getD k tz).b.toNat 0 ∧ o.getD (t.getD k tz).b.toNat 0 ≤ 4096 := by
  have h1 := h.kd
  have h2 := h.ord
  have h3 : xV (t.getD k tz).op = 2 := by rcases aP (t.getD k tz).op with ⟨a, b⟩ | ⟨a, b⟩ | ⟨a, b⟩ | ⟨a, b⟩ <;> omega
  unfold bB at h2
  have ha : (t.getD k tz).b.toNat < k := by omega
  have e := ho.at ha (by have := h.tm.kl; omega)
  have r := sz_rng h.tm.up _ ha
  rw [← e] at r
  exact ⟨by omega, ha, e, r⟩
theorem szN_c {ss : List Int} {x : kK} (h : xV x.op = 0) : (1 : Int) = bN ss x := (if_pos h).symm
theorem szN_n {ss : List Int} {x : kK} {v : Int} (h : xV x.op ≠ 0) (h6 : x.op = 6) (hv : v = ss.getD x.a.toNat 0) : v = bN ss x := by
  unfold bN; rw [if_neg h, if_pos h6, hv]
theorem szN_q {ss : List Int} {x : kK} {v : Int} (h : xV x.op ≠ 0) (h7 : x.op = 7) (hv : v = ss.getD x.a.toNat 0) : 2 * v = bN ss x := by
  unfold bN; rw [if_neg h, if_neg (by omega), if_pos h7, hv]
theorem szN_b {ss : List Int} {x : kK} {v w : Int} (h : xV x.op ≠ 0) (h6 : x.op ≠ 6) (h7 : x.op ≠ 7) (hv : v = ss.getD x.a.toNat 0) (hw : w = ss.getD x.b.toNat 0) : v + w = bN ss x := by
  unfold bN; rw [if_neg h, if_neg h6, if_neg h7, hv, hw]
theorem tm_end {z : Int} {t : List kK} {k : Nat} {o : List Int} (h : (decide (z < 0) || decide (64 < z)) = false) (h0 : ((t.length : Nat) : Int) ≠ 0) (h4 : ¬ 400 < ((t.length : Nat) : Int)) (hk : k ≤ t.length) (h5 : ¬ ((k : Nat) : Int) < ((t.length : Nat) : Int)) (ho : szI t k o) (hu : szUp z t k) : eY z t = 0 ∧ tmL z t = o := by
  obtain rfl : k = t.length := by omega
  obtain ⟨e1, e2⟩ := tm_yes (zb_f h) (by omega) (by omega) hu
  exact ⟨e1, by rw [e2, szI_end ho]⟩
inductive NdOk (n : Nat) (L : List JV) : kK → Prop
  | c {p : Rat} (hp : QL p 1048576) : NdOk n L ⟨0, 0, 0, jM p⟩
  | v {a : Nat} (ha : a < n) : NdOk n L ⟨1, (a : Int), 0, zr⟩
  | add {a b : Nat} (ha : a < L.length) (hb : b < L.length) : NdOk n L ⟨2, (a : Int), (b : Int), zr⟩
  | sub {a b : Nat} (ha : a < L.length) (hb : b < L.length) : NdOk n L ⟨3, (a : Int), (b : Int), zr⟩
  | mul {a b : Nat} (ha : a < L.length) (hb : b < L.length) : NdOk n L ⟨4, (a : Int), (b : Int), zr⟩
  | div {a b : Nat} (ha : a < L.length) (hb : b < L.length) (hz : zeroG (L.getD b jz).v.1 (L.getD b jz).v.2 = false) : NdOk n L ⟨5, (a : Int), (b : Int), zr⟩
  | neg {a : Nat} (ha : a < L.length) : NdOk n L ⟨6, (a : Int), 0, zr⟩
  | sq {a : Nat} (ha : a < L.length) : NdOk n L ⟨7, (a : Int), 0, zr⟩
theorem nat_of {a : Int} (h : 0 ≤ a) : ∃ m : Nat, a = (m : Int) := ⟨a.toNat, by omega⟩
theorem nd_ok {bx : List R2} {t : List kK} {k : Nat} {ss : List Int} (h : ndC ((bx.length : Nat) : Int) ss (t.getD k tz) = 0) (hs : ss.length = k) (hq : mF (t.getD k tz).n (qB (t.getD k tz).n) 1048576)
    (hz : (t.getD k tz).op = 5 → zeroG (jA (jU bx t k) (t.getD k tz).b).v.1 (jA (jU bx t k) (t.getD k tz).b).v.2 = false) : NdOk bx.length (jU bx t k) (t.getD k tz) := by
  obtain ⟨h1, h2, h3, _⟩ := nd_0 h
  have hl := jU_len bx t k
  rw [hs] at h2
  generalize t.getD k tz = x at *
  generalize jU bx t k = L at *
  obtain ⟨op, a, b, n⟩ := x
  unfold cO at h1
  unfold bB at h2
  unfold rngN at h3
  dsimp only at *
  have hu : op ≠ 0 → n = zr := fun h => uns_eq (by
    cases hh : unsB n with
    | true => rfl
    | false => exact absurd (Or.inr (Or.inr (Or.inr ⟨h, hh⟩))) h1)
  rcases aP op with ⟨e, f⟩ | ⟨e, f⟩ | ⟨e, f⟩ | ⟨e, f⟩
  · have hb : b = 0 := by omega
    subst hb
    rcases f with f | f
    · subst f
      have ha : a = 0 := by omega
      subst ha
      have hv : kN n = true := by
        cases hh : kN n with
        | true => rfl
        | false => exact absurd (Or.inr (Or.inr (Or.inl ⟨rfl, Or.inr hh⟩))) h1
      rw [← ofQ_toQ hv] at hq ⊢
      rw [mC] at hq
      exact .c (hq.ql)
    · subst f
      obtain ⟨m, hm⟩ := nat_of (a := a) (by omega)
      subst hm
      rw [hu (by decide)]
      exact .v (by omega)
  · have hb : b = 0 := by omega
    subst hb
    obtain ⟨m, hm⟩ := nat_of (a := a) (by omega)
    subst hm
    rw [hu (by omega)]
    rcases f with f | f <;> subst f
    · exact .neg (by omega)
    · exact .sq (by omega)
  · obtain ⟨m, hm⟩ := nat_of (a := a) (by omega)
    subst hm
    obtain ⟨l, hl'⟩ := nat_of (a := b) (by omega)
    subst hl'
    rw [hu (by omega)]
    rcases f with f | f | f | f <;> subst f
    · exact .add (by omega) (by omega)
    · exact .sub (by omega) (by omega)
    · exact .mul (by omega) (by omega)
    · refine .div (by omega) (by omega) ?_
      have := hz rfl
      unfold jA at this
      rwa [Int.toNat_natCast] at this
  · omega
structure JRun (bx : List R2) (t : List kK) : Prop where
  c0 : eY ((bx.length : Nat) : Int) t = 0
  ok : ∀ k, k < t.length → JOk 1048576 bx.length (nJ bx (jU bx t k) (t.getD k tz))
  dz : ∀ k, k < t.length → (t.getD k tz).op = 5 → zeroG (jA (jU bx t k) (t.getD k tz).b).v.1 (jA (jU bx t k) (t.getD k tz).b).v.2 = false
theorem JRun.upto {bx : List R2} {t : List kK} (h : JRun bx t) : ∀ {k}, k ≤ t.length → ∀ y ∈ jU bx t k, JOk 1048576 bx.length y
  | 0, _, y, hy => by simp [jU] at hy
  | k + 1, hk, y, hy => by
    rw [jU, List.mem_append] at hy
    rcases hy with hy | hy
    · exact h.upto (by omega) y hy
    · rw [List.mem_singleton] at hy; subst hy
      exact h.ok k (by omega)
theorem JRun.nd {bx : List R2} {t : List kK} (h : JRun bx t) (hq : ∀ x ∈ t, mF x.n (qB x.n) 1048576) {k : Nat} (hk : k < t.length) : NdOk bx.length (jU bx t k) (t.getD k tz) := by
  have h0 := tm_0 h.c0
  refine nd_ok (h0.2.2.2.2 k hk) (mA t k) ?_ (h.dz k hk)
  rw [List.getD_eq_getElem?_getD, List.getElem?_eq_getElem hk]; exact hq _ (List.getElem_mem _)
def gX (bx : List R2) (t : List kK) : JV := (jU bx t t.length).getD (t.length - 1) jz
theorem JRun.last {bx : List R2} {t : List kK} (h : JRun bx t) : JOk 1048576 bx.length (gX bx t) := by
  have h0 := tm_0 h.c0
  have hl := jU_len bx t t.length
  unfold gX
  rw [List.getD_eq_getElem?_getD, List.getElem?_eq_getElem (by omega)]
  exact h.upto (Nat.le_refl _) _ (List.getElem_mem _)
end Go.Fid
