/- Part 21 of a proof: rules, plain facts, and functions walked. -/
import Derived.Test.YtleidgohjckmlaaGreatM20
import Derived.Test.YtleidgohjckmlaaGreatM17
import Derived.Test.YtleidgohjckmlaaGreatM14
import Derived.Test.YtleidgohjckmlaaGreatM11
namespace Go.Proofs.YtleidgohjckmlaaGreat
open Go.Fid
set_option maxRecDepth 4000
set_option linter.unusedVariables false
set_option linter.unusedSimpArgs false
theorem cb41 : callB Tryz.prog 41 = true := by kernel_rfl
theorem p_pix (x : Int) (y : Int) (w h : Nat) (mx : Int) (px : List Int) (hv : RstOk w h px) (hx1 : -1000 ≤ x) (hx2 : x ≤ 1000) (hy1 : -1000 ≤ y) (hy2 : y ≤ 1000) : Takes Tryz.prog 41 [(.val (.int .i64 (x))), (.val (.int .i64 (y))), (.cptr 1000000 (Dat.cells (encRst (RRst.mk ((w : Nat) : Int) ((h : Nat) : Int) mx px))) 0)] (.val (.int .i64 ((pixA w h px x y)))) := by
  obtain ⟨hm1, hm2⟩ := pix_lt hv x.toNat y.toNat
  obtain ⟨w1, w2, w3, w4, w5, w6⟩ := hv
  refine fn_intro Tryz.func41 rfl cb41 rfl ?_
  show PWp _ _ _ _ ⟨[(0, (vi x)), (1, (vi y)), (2, (.d (.cptr 1000000 (Dat.cells (encRst (RRst.mk ((w : Nat) : Int) ((h : Nat) : Int) mx px))) 0)))], []⟩
  refine pwp_seq <| kx [] [] (zM <| zZ) ?_
  refine pwp_seq <| kx [(5, (vi (px.getD (((min y.toNat (h - 1)) * w) + (min x.toNat (w - 1))) 0)))] [] (zE (oFc fo24_3) <| zE (oC1 sh22) <| zM <| zE (zMx ((y.toNat : Nat) : Int) (hr := by first | omega | (dsimp only; omega))) <| zE (oFc fo24_1) <| zE (oC1 sh3) <| zE (oSb (h - 1)) <| zE (oMn (min y.toNat (h - 1))) <| zE (oFc fo24_0) <| zE (oC1 sh3) <| zE (oMl ((min y.toNat (h - 1)) * w)) <| zM <| zE (zMx ((x.toNat : Nat) : Int) (hr := by first | omega | (dsimp only; omega))) <| zE (oFc fo24_0) <| zE (oC1 sh3) <| zE (oSb (w - 1)) <| zE (oMn (min x.toNat (w - 1))) <| zE (oAd (((min y.toNat (h - 1)) * w) + (min x.toNat (w - 1)))) <| zE (oXl el22 (((min y.toNat (h - 1)) * w) + (min x.toNat (w - 1))) (0 : Int) (L := px)) <| zE (oC1 sh3) <| zM <| zZ) ?_
  refine pwp_ret ⟨_, (.tmp (d := (.val (.int .i64 ((px.getD (((min y.toNat (h - 1)) * w) + (min x.toNat (w - 1))) 0))))) rfl .nil), ?_⟩
  rfl
end Go.Proofs.YtleidgohjckmlaaGreat
set_option linter.unusedVariables false
set_option linter.unusedSimpArgs false
namespace Go.Fid
theorem py_range_getD {α : Type} (d : α) (l : List α) : ((List.range l.length).map fun x => l.getD x d) = l := by
  apply List.ext_getElem
  · simp
  · intro n h1 h2; simp [List.getD_eq_getElem?_getD, List.getElem?_eq_getElem h2]
theorem badB_or {n : Int} : (decide (1048576 < n) || decide (n < -1048576)) = badB n := Bool.or_comm _ _
theorem ne_len {T : List (List Int)} (h : 0 < T.length) : T ≠ [] := fun e => by rw [e] at h; exact absurd h (by decide)
theorem tr_zero (T : List (List Int)) : tr 0 T = [] := rfl
theorem rowsOf_zero (w : Nat) (l : List Int) : rowsOf w 0 l = [] := rfl
theorem rect_lo {w : Nat} {T : List (List Int)} (h : Rect w T) : Rect ((w + 1) / 2) (T.map loS) := fun r hr => by
  obtain ⟨q, hq, rfl⟩ := List.mem_map.1 hr; rw [loS_len, h q hq]
theorem rect_hi {w : Nat} {T : List (List Int)} (h : Rect w T) : Rect (w / 2) (T.map hiS) := fun r hr => by
  obtain ⟨q, hq, rfl⟩ := List.mem_map.1 hr; rw [hiS_len, h q hq]
theorem stkR_rect {s t : Nat} {X Y : List (List Int)} {k : Nat} (hX : Rect s X) (hk : k ≤ X.length) (hY : ∀ x, x < k → (Y.getD x []).length = t) (hst : s = t ∨ s = t + 1) : Rect (s + t) (stkR X Y k) ∧ (stkR X Y k).map loS = X.take k ∧ (stkR X Y k).map hiS = (List.range k).map fun x => Y.getD x [] := by
  have hg : ∀ x, x < k → (X.getD x []).length = s := fun x hx => rect_get hX (by omega)
  refine ⟨fun r hr => ?_, ?_, ?_⟩
  · obtain ⟨x, hx, rfl⟩ := List.mem_map.1 hr
    have hx := List.mem_range.1 hx
    rw [joinS_len _ _ (by rw [hg x hx, hY x hx]; exact hst), hg x hx, hY x hx]
  · unfold stkR
    rw [List.map_map]
    rw [List.map_congr_left (g := fun x => X.getD x []) (fun x hx => by
      have hx := List.mem_range.1 hx
      exact (split_join _ _ (by rw [hg x hx, hY x hx]; exact hst)).1)]
    apply List.ext_getElem
    · simp; omega
    · intro n h1 h2; simp at h1 h2; simp [List.getD_eq_getElem?_getD, List.getElem?_eq_getElem (show n < X.length by omega)]
  · unfold stkR
    rw [List.map_map]
    exact List.map_congr_left (fun x hx => by
      have hx := List.mem_range.1 hx
      exact (split_join _ _ (by rw [hg x hx, hY x hx]; exact hst)).2)
theorem lay_len {P t : Nat} {hi : List Int} (hP : 0 < P) (hhi : hi.length = P * t) : ∀ x, x < P → ((trP (rowsOf P t hi)).getD x []).length = t := by
  intro x hx
  rcases Nat.eq_zero_or_pos t with h0 | h0
  · rw [h0, rowsOf_zero, trP_nil]; rfl
  · have hr := rowsOf_rect hhi
    rw [trP_eq hr (ne_len (by rw [rowsOf_len]; exact h0))]
    have := rect_get (tr_rect P (rowsOf P t hi)) (y := x) (by rw [tr_len]; exact hx)
    rw [rowsOf_len] at this; exact this
theorem stkV_join {P s t : Nat} {lo hi : List Int} (hP : 0 < P) (hs : 0 < s) (hst : s = t ∨ s = t + 1) (hlo : lo.length = P * s) (hhi : hi.length = P * t) :
    Rect P (stkV P s t lo hi) ∧ (stkV P s t lo hi).length = s + t ∧ colLo (stkV P s t lo hi) = lo ∧ colHi (stkV P s t lo hi) = hi := by
  have hL := rowsOf_rect hlo
  have eX : trP (rowsOf P s lo) = tr P (rowsOf P s lo) := trP_eq hL (ne_len (by rw [rowsOf_len]; exact hs))
  have hX := tr_rect P (rowsOf P s lo)
  have hXl := tr_len P (rowsOf P s lo)
  rw [rowsOf_len] at hX
  have hY := lay_len hP hhi
  obtain ⟨j1, j2, j3⟩ := stkR_rect (k := P) hX (by rw [hXl]; exact Nat.le_refl _) hY hst
  have hJl : (stkR (tr P (rowsOf P s lo)) (trP (rowsOf P t hi)) P).length = P := stkR_len _ _ _
  unfold stkV
  rw [eX, hXl]
  have eV := trP_eq j1 (ne_len (by rw [hJl]; exact hP))
  have hV := tr_rect (s + t) (stkR (tr P (rowsOf P s lo)) (trP (rowsOf P t hi)) P)
  have hVl := tr_len (s + t) (stkR (tr P (rowsOf P s lo)) (trP (rowsOf P t hi)) P)
  rw [hJl] at hV
  rw [eV]
  have eVV : trP (tr (s + t) (stkR (tr P (rowsOf P s lo)) (trP (rowsOf P t hi)) P)) = stkR (tr P (rowsOf P s lo)) (trP (rowsOf P t hi)) P := by
    rw [trP_eq hV (ne_len (by rw [hVl]; omega))]
    have := tr_tr j1
    rw [hJl] at this; exact this
  refine ⟨hV, hVl, ?_, ?_⟩
  · unfold colLo
    rw [eVV, j2, List.take_of_length_le (by rw [hXl]; exact Nat.le_refl _), trP_eq hX (ne_len (by rw [hXl]; exact hP))]
    have := tr_tr hL
    rw [rowsOf_len] at this
    rw [this, rowsOf_flat hlo]
  · unfold colHi
    rw [eVV, j3]
    rcases Nat.eq_zero_or_pos t with h0 | h0
    · rw [h0, rowsOf_zero, trP_nil]
      have hr0 : Rect 0 ((List.range P).map fun x => ([] : List (List Int)).getD x []) := fun r hr => by
        obtain ⟨x, _, rfl⟩ := List.mem_map.1 hr; rfl
      rw [trP_eq hr0 (ne_len (by simp; exact hP)), tr_zero]
      exact (List.eq_nil_of_length_eq_zero (by rw [hhi, h0]; rfl)).symm
    · have hr := rowsOf_rect hhi
      have eY := trP_eq hr (ne_len (by rw [rowsOf_len]; exact h0))
      have hYr := tr_rect P (rowsOf P t hi)
      rw [rowsOf_len] at hYr
      have hYl := tr_len P (rowsOf P t hi)
      rw [eY]
      have := py_range_getD [] (tr P (rowsOf P t hi))
      rw [hYl] at this
      rw [this, trP_eq hYr (ne_len (by rw [hYl]; exact hP))]
      have := tr_tr hr
      rw [rowsOf_len] at this
      rw [this, rowsOf_flat hhi]
theorem bands_pxJ {w h : Nat} {l r d c : List Int} (hv : BndOk w h l r d c) : (pxJ w h l r d c).length = w * h ∧ bLow w h (pxJ w h l r d c) = l ∧ bRight w h (pxJ w h l r d c) = r ∧ bDown w h (pxJ w h l r d c) = d ∧ bCorner w h (pxJ w h l r d c) = c := by
  obtain ⟨w1, w2, h1, h2, v1, v2, v3, v4, _⟩ := hv
  have hst : (h + 1) / 2 = h / 2 ∨ (h + 1) / 2 = h / 2 + 1 := by omega
  have hh : (h + 1) / 2 + h / 2 = h := by omega
  have hw : (w + 1) / 2 + w / 2 = w := by omega
  have hpq : (w + 1) / 2 = w / 2 ∨ (w + 1) / 2 = w / 2 + 1 := by omega
  obtain ⟨a1, a2, a3, a4⟩ := stkV_join (P := (w + 1) / 2) (by omega) (by omega) hst v1 v3
  rw [hh] at a2
  have hVr : ∀ x, x < h → ((stkV (w / 2) ((h + 1) / 2) (h / 2) r c).getD x []).length = w / 2 := by
    intro x hx
    rcases Nat.eq_zero_or_pos (w / 2) with h0 | h0
    · rw [h0, stkV_0]; rfl
    · obtain ⟨b1, b2, _⟩ := stkV_join (P := w / 2) h0 (by omega) hst v2 v4
      exact rect_get b1 (by rw [b2, hh]; exact hx)
  obtain ⟨z1, z2, z3⟩ := stkR_rect (k := h) a1 (by rw [a2]; exact Nat.le_refl _) hVr hpq
  rw [hw] at z1
  have zl : (stkR (stkV ((w + 1) / 2) ((h + 1) / 2) (h / 2) l d) (stkV (w / 2) ((h + 1) / 2) (h / 2) r c) h).length = h := stkR_len _ _ _
  have e : rowsOf w h (pxJ w h l r d c) = stkR (stkV ((w + 1) / 2) ((h + 1) / 2) (h / 2) l d) (stkV (w / 2) ((h + 1) / 2) (h / 2) r c) h := by
    unfold pxJ; rw [a2]
    have := flat_rowsOf z1; rw [zl] at this; exact this
  refine ⟨?_, ?_, ?_, ?_, ?_⟩
  · unfold pxJ; rw [a2, flat_len z1, zl]
  · unfold bLow; rw [e, z2, List.take_of_length_le (by rw [a2]; exact Nat.le_refl _), a3]
  · unfold bRight; rw [e, z3]
    rcases Nat.eq_zero_or_pos (w / 2) with h0 | h0
    · rw [h0, stkV_0]
      have hr0 : Rect 0 ((List.range h).map fun x => ([] : List (List Int)).getD x []) := fun r hr => by
        obtain ⟨x, _, rfl⟩ := List.mem_map.1 hr; rfl
      unfold colLo
      rw [trP_eq hr0 (ne_len (by simp; omega)), tr_zero]
      exact (List.eq_nil_of_length_eq_zero (by rw [v2, h0]; simp)).symm
    · obtain ⟨b1, b2, b3, b4⟩ := stkV_join (P := w / 2) h0 (by omega) hst v2 v4
      have := py_range_getD [] (stkV (w / 2) ((h + 1) / 2) (h / 2) r c)
      rw [b2, hh] at this
      rw [this, b3]
  · unfold bDown; rw [e, z2, List.take_of_length_le (by rw [a2]; exact Nat.le_refl _), a4]
  · unfold bCorner; rw [e, z3]
    rcases Nat.eq_zero_or_pos (w / 2) with h0 | h0
    · rw [h0, stkV_0]
      have hr0 : Rect 0 ((List.range h).map fun x => ([] : List (List Int)).getD x []) := fun r hr => by
        obtain ⟨x, _, rfl⟩ := List.mem_map.1 hr; rfl
      unfold colHi
      rw [trP_eq hr0 (ne_len (by simp; omega)), tr_zero]
      exact (List.eq_nil_of_length_eq_zero (by rw [v4, h0]; simp)).symm
    · obtain ⟨b1, b2, b3, b4⟩ := stkV_join (P := w / 2) h0 (by omega) hst v2 v4
      have := py_range_getD [] (stkV (w / 2) ((h + 1) / 2) (h / 2) r c)
      rw [b2, hh] at this
      rw [this, b4]
end Go.Fid
set_option linter.unusedVariables false
set_option linter.unusedSimpArgs false
namespace Go.Fid
theorem col_len {W : Nat} {A : List (List Int)} (hA : Rect W A) (hne : 0 < A.length) : (colLo A).length = W * ((A.length + 1) / 2) ∧ (colHi A).length = W * (A.length / 2) := by
  have e1 : trP A = tr W A := trP_eq hA (ne_len hne)
  have hr := tr_rect W A
  have hlen := tr_len W A
  unfold colLo colHi
  rw [e1]
  rcases Nat.eq_zero_or_pos W with h0 | h0
  · subst h0; rw [tr_zero]; constructor <;> (rw [Nat.zero_mul]; rfl)
  · have h1 : 0 < ((tr W A).map loS).length := by rw [List.length_map, hlen]; exact h0
    have h2 : 0 < ((tr W A).map hiS).length := by rw [List.length_map, hlen]; exact h0
    rw [trP_eq (rect_lo hr) (ne_len h1), trP_eq (rect_hi hr) (ne_len h2), flat_len (tr_rect _ _), flat_len (tr_rect _ _), tr_len, tr_len, List.length_map, List.length_map, hlen]
    exact ⟨rfl, rfl⟩
theorem bands_ok {w h : Nat} {px : List Int} (hv : RstOk w h px) : BndOk w h (bLow w h px) (bRight w h px) (bDown w h px) (bCorner w h px) := by
  have hT := rows_tab hv
  obtain ⟨w1, w2, h1, h2, hl, _⟩ := hv
  have hTl := rowsOf_len w h px
  have hA := tab_lo hT
  have hB := tab_hi hT
  obtain ⟨a1, a2⟩ := col_len hA.1 (by rw [List.length_map, hTl]; omega)
  obtain ⟨b1, b2⟩ := col_len hB.1 (by rw [List.length_map, hTl]; omega)
  rw [List.length_map, hTl] at a1 a2 b1 b2
  exact ⟨w1, w2, h1, h2, a1, b1, a2, b2, (tab_fbd (tab_tr (tab_lo (tab_tr hA)))).up (by decide), (tab_fbd (tab_tr (tab_lo (tab_tr hB)))).up (by decide), (tab_fbd (tab_tr (tab_hi (tab_tr hA)))).up (by decide), (tab_fbd (tab_tr (tab_hi (tab_tr hB)))).up (by decide)⟩
theorem rst_chk {w h : Nat} {mx : Int} {px : List Int} (w1 : 1 ≤ w) (w2 : w ≤ 64) (h1 : 1 ≤ h) (h2 : h ≤ 64) (hl : px.length = w * h) (m1 : 1 ≤ mx) (m2 : mx ≤ 65535) (hp : px.any (badPx mx) = false) : chkC ((w : Nat) : Int) ((h : Nat) : Int) mx px = 0 := by
  have : chkB ((w : Nat) : Int) ((h : Nat) : Int) mx px = false := by
    simp only [chkB, Bool.or_eq_false_iff, bne_eq_false_iff_eq, decide_eq_false_iff_not]
    refine ⟨⟨⟨by omega, by omega⟩, by omega⟩, ?_⟩
    rw [hl]; rfl
  exact chk_3 this hp
theorem px_ok {mx : Int} {px : List Int} : px.any (badPx mx) = false ↔ ∀ x ∈ px, 0 ≤ x ∧ x ≤ mx := by
  rw [List.any_eq_false]
  constructor
  · intro h x hx; have := h x hx; simp only [badPx, Bool.or_eq_true, decide_eq_true_eq, not_or] at this; omega
  · intro h x hx; have := h x hx; simp only [badPx, Bool.or_eq_true, decide_eq_true_eq, not_or]; omega
theorem joined_rst {w h : Nat} {m : Int} {l r d c : List Int} (hv : BndOk w h l r d c) (m1 : 1 ≤ m) (m2 : m ≤ 65535) (hc : (pxJ w h l r d c).any (badPx m) = false) : RstOk w h (pxJ w h l r d c) ∧ chkC ((w : Nat) : Int) ((h : Nat) : Int) m (pxJ w h l r d c) = 0 := by
  obtain ⟨e, _⟩ := bands_pxJ hv
  obtain ⟨w1, w2, h1, h2, _⟩ := hv
  exact ⟨⟨w1, w2, h1, h2, e, fun x hx => by have := px_ok.1 hc x hx; omega⟩, rst_chk w1 w2 h1 h2 e m1 m2 hc⟩
def smS (w h : Nat) (px : List Int) (x y : Int) : Int :=
  8 + 1 * pixA w h px (x - 1) (y - 1) + 2 * pixA w h px x (y - 1) + 1 * pixA w h px (x + 1) (y - 1)
    + 2 * pixA w h px (x - 1) y + 4 * pixA w h px x y + 2 * pixA w h px (x + 1) y
    + 1 * pixA w h px (x - 1) (y + 1) + 2 * pixA w h px x (y + 1) + 1 * pixA w h px (x + 1) (y + 1)
def smP (w h : Nat) (px : List Int) (i : Nat) : Int := (smS w h px ((i % w : Nat) : Int) ((i / w : Nat) : Int)).tdiv 16
def smV (w h : Nat) (px : List Int) : List Int := (List.range (w * h)).map (smP w h px)
theorem range_map_step (f : Nat → Int) {n : Nat} {out : List Int} (ho : out = (List.range n).map f) : out ++ [f n] = (List.range (n + 1)).map f := by
  rw [ho, List.range_succ, List.map_append]; rfl
theorem mod_at {w x y : Nat} (hx : x < w) : (y * w + x) % w = x ∧ (y * w + x) / w = y := by
  refine ⟨by rw [Nat.mul_comm, Nat.mul_add_mod, Nat.mod_eq_of_lt hx], ?_⟩
  rw [Nat.mul_comm, Nat.mul_add_div (by omega), Nat.div_eq_of_lt hx, Nat.add_zero]
theorem smP_at {w h x y : Nat} {px : List Int} (hx : x < w) : smP w h px (y * w + x) = (smS w h px ((x : Nat) : Int) ((y : Nat) : Int)).tdiv 16 := by
  obtain ⟨a, b⟩ := mod_at (y := y) hx
  rw [smP, a, b]
theorem sm_step {w h x y : Nat} {px out : List Int} (ho : out = (List.range (y * w + x)).map (smP w h px)) (hx : x < w) : out ++ [(smS w h px ((x : Nat) : Int) ((y : Nat) : Int)).tdiv 16] = (List.range (y * w + (x + 1))).map (smP w h px) := by
  rw [← smP_at hx]; exact range_map_step _ ho
theorem sm_row {w h y x : Nat} {px out : List Int} (ho : out = (List.range (y * w + x)).map (smP w h px)) (hx : x = w) : out = (List.range ((y + 1) * w + 0)).map (smP w h px) := by
  rw [ho, hx]; congr 2; rw [Nat.add_mul, Nat.one_mul]; omega
theorem lin_le {w h y x : Nat} (hw : w ≤ 64) (hh : h ≤ 64) (hy : y ≤ h) (hx : x ≤ w) : y * w + x ≤ 1000000 := by
  have : y * w ≤ 64 * 64 := Nat.mul_le_mul (by omega) hw
  omega
theorem sm_end {w h y : Nat} {px : List Int} (hy : y = h) : (List.range (y * w + 0)).map (smP w h px) = smV w h px := by rw [hy, smV, Nat.add_zero, Nat.mul_comm]
theorem td16_bd (n : Int) : (0 ≤ n ∧ 0 ≤ n.tdiv 16 ∧ n.tdiv 16 ≤ n) ∨ (n < 0 ∧ n ≤ n.tdiv 16 ∧ n.tdiv 16 ≤ 0) := by
  by_cases h : 0 ≤ n
  · left; rw [Int.tdiv_eq_ediv_of_nonneg h]; omega
  · right
    obtain ⟨m, rfl⟩ : ∃ m : Int, n = -m := ⟨-n, by omega⟩
    rw [Int.neg_tdiv, Int.tdiv_eq_ediv_of_nonneg (by omega)]; omega
theorem pixA_mem {w h : Nat} {px : List Int} (hv : RstOk w h px) (x y : Int) : pixA w h px x y ∈ px := by
  obtain ⟨_, hlt⟩ := pix_lt hv x.toNat y.toNat
  unfold pixA
  rw [List.getD_eq_getElem?_getD, List.getElem?_eq_getElem hlt]
  exact List.getElem_mem hlt
theorem smS_le {w h : Nat} {px : List Int} {a b : Int} (hv : RstOk w h px) (hb : ∀ x ∈ px, a ≤ x ∧ x ≤ b) (x y : Int) : 16 * a + 8 ≤ smS w h px x y ∧ smS w h px x y ≤ 16 * b + 8 := by
  have p := fun x y => hb _ (pixA_mem hv x y)
  have p1 := p (x - 1) (y - 1); have p2 := p x (y - 1); have p3 := p (x + 1) (y - 1)
  have p4 := p (x - 1) y; have p5 := p x y; have p6 := p (x + 1) y
  have p7 := p (x - 1) (y + 1); have p8 := p x (y + 1); have p9 := p (x + 1) (y + 1)
  unfold smS; omega
def pySum : List Int → Int
  | [] => 0
  | a :: l => a + pySum l
theorem pySum_app (l m : List Int) : pySum (l ++ m) = pySum l + pySum m := by
  induction l with
  | nil => simp [pySum]
  | cons a l ih => simp only [List.cons_append, pySum, ih]; omega
theorem pySum_step {l : List Int} {k : Nat} (h : k < l.length) : pySum (l.take k) + l.getD k 0 = pySum (l.take (k + 1)) := by
  rw [take_one h, pySum_app]; simp [pySum]
theorem Bd_take {n : Int} {l : List Int} (h : Bd n l) (k : Nat) : Bd n (l.take k) := fun x hx => h x (List.mem_of_mem_take hx)
theorem pySum_bd {l : List Int} (h : Bd 65535 l) : -(65535 * (l.length : Int)) ≤ pySum l ∧ pySum l ≤ 65535 * (l.length : Int) := by
  induction l with
  | nil => simp [pySum]
  | cons a l ih =>
    have h1 := h a (.head _)
    have h2 := ih fun x hx => h x (.tail _ hx)
    simp only [pySum, List.length_cons]; omega
theorem rst_pos {w h : Nat} {px : List Int} (hv : RstOk w h px) : 0 < px.length := by
  obtain ⟨w1, _, h1, _, hl, _⟩ := hv
  rw [hl]; exact Nat.mul_pos w1 h1
theorem mean_ql {w h : Nat} {px : List Int} (hv : RstOk w h px) : QL (Rat.divInt (pySum px) ((px.length : Nat) : Int)) 3 := by
  have h1 := pySum_bd hv.2.2.2.2.2
  have h2 := rst_len hv
  exact ql_divInt (n := 3) (lenZ_int (by omega) (by omega)) (lenZ_int (by omega) (by omega)) (by decide)
end Go.Fid
set_option linter.unusedVariables false
set_option linter.unusedSimpArgs false
namespace Go.Fid
inductive R2 {α β : Type} (R : α → β → Prop) : List α → List β → Prop where
  | nil : R2 R [] []
  | cons {a : α} {b : β} {l : List α} {m : List β} : R a b → R2 R l m → R2 R (a :: l) (b :: m)
theorem R2.length {α β : Type} {R : α → β → Prop} {l : List α} {m : List β} (h : R2 R l m) : l.length = m.length := by
  induction h with
  | nil => rfl
  | cons _ _ ih => simp [ih]
theorem R2.get {α β : Type} {R : α → β → Prop} {l : List α} {m : List β} (h : R2 R l m) (d : α) (e : β) : ∀ i, i < l.length → R (l.getD i d) (m.getD i e) := by
  induction h with
  | nil => intro i hi; exact absurd hi (Nat.not_lt_zero _)
  | cons h1 _ ih =>
    intro i hi
    cases i with
    | zero => exact h1
    | succ i => simpa using ih i (by simpa using hi)
theorem R2.of {α β : Type} {R : α → β → Prop} (d : α) (e : β) : ∀ {l : List α} {m : List β}, l.length = m.length → (∀ i, i < l.length → R (l.getD i d) (m.getD i e)) → R2 R l m
  | [], [], _, _ => .nil
  | [], _ :: _, h, _ => by simp at h
  | _ :: _, [], h, _ => by simp at h
  | a :: l, b :: m, h, k => .cons (k 0 (by simp)) (R2.of d e (by simpa using h) fun i hi => by simpa using k (i + 1) (by simpa using hi))
theorem R2.map {α β γ δ : Type} {R : α → β → Prop} {S : γ → δ → Prop} {f : α → γ} {g : β → δ} {l : List α} {m : List β} (h : R2 R l m) (hf : ∀ a b, R a b → S (f a) (g b)) : R2 S (l.map f) (m.map g) := by
  induction h with
  | nil => exact .nil
  | cons h1 _ ih => exact .cons (hf _ _ h1) ih
theorem R2.same {α γ δ : Type} {S : γ → δ → Prop} {f : α → γ} {g : α → δ} (l : List α) (h : ∀ a ∈ l, S (f a) (g a)) : R2 S (l.map f) (l.map g) := by
  induction l with
  | nil => exact .nil
  | cons a l ih => exact .cons (h a (.head _)) (ih fun b hb => h b (.tail _ hb))
theorem R2.app {α β : Type} {R : α → β → Prop} {l l' : List α} {m m' : List β} (h : R2 R l m) (h' : R2 R l' m') : R2 R (l ++ l') (m ++ m') := by
  induction h with
  | nil => exact h'
  | cons h1 _ ih => exact .cons h1 ih
theorem R2.flat {α β : Type} {R : α → β → Prop} {T : List (List α)} {U : List (List β)} (h : R2 (R2 R) T U) : R2 R T.flatten U.flatten := by
  induction h with
  | nil => exact .nil
  | cons h1 _ ih => exact h1.app ih
theorem R2.take {α β : Type} {R : α → β → Prop} {l : List α} {m : List β} (h : R2 R l m) : ∀ n, R2 R (l.take n) (m.take n) := by
  induction h with
  | nil => intro n; simp; exact .nil
  | cons h1 _ ih =>
    intro n
    cases n with
    | zero => exact .nil
    | succ n => exact .cons h1 (ih n)
theorem R2.drop {α β : Type} {R : α → β → Prop} {l : List α} {m : List β} (h : R2 R l m) : ∀ n, R2 R (l.drop n) (m.drop n) := by
  induction h with
  | nil => intro n; simp; exact .nil
  | cons h1 h2 ih =>
    intro n
    cases n with
    | zero => exact .cons h1 h2
    | succ n => exact ih n
theorem R2.rows {R : Int → Int → Prop} {l m : List Int} (h : R2 R l m) (w n : Nat) : R2 (R2 R) (rowsOf w n l) (rowsOf w n m) := R2.same _ fun y _ => (h.drop _).take _
theorem R2.lo {R : Int → Int → Prop} (hR : ∀ a b c d, R a b → R c d → R ((a + c).fdiv 2) ((b + d).fdiv 2)) : ∀ {l m : List Int}, R2 R l m → R2 R (loS l) (loS m)
  | [], _, .nil => .nil
  | [_], _, .cons h1 .nil => .cons h1 .nil
  | _ :: _ :: _, _, .cons h1 (.cons h2 h3) => .cons (hR _ _ _ _ h1 h2) (R2.lo hR h3)
theorem R2.hi {R S : Int → Int → Prop} (hR : ∀ a b c d, R a b → R c d → S (a - c) (b - d)) : ∀ {l m : List Int}, R2 R l m → R2 S (hiS l) (hiS m)
  | [], _, .nil => .nil
  | [_], _, .cons h1 .nil => .nil
  | _ :: _ :: _, _, .cons h1 (.cons h2 h3) => .cons (hR _ _ _ _ h1 h2) (R2.hi hR h3)
theorem R2.col {R : Int → Int → Prop} {w j : Nat} (hj : j < w) : ∀ {T U : List (List Int)}, R2 (R2 R) T U → Rect w T → R2 R (T.map fun r => r.getD j 0) (U.map fun r => r.getD j 0)
  | _, _, .nil, _ => .nil
  | _, _, .cons h1 h2, hT => .cons (h1.get 0 0 j (by rw [hT _ (.head _)]; exact hj)) (R2.col hj h2 fun r hr => hT r (.tail _ hr))
theorem R2.tr {R : Int → Int → Prop} {w : Nat} {T U : List (List Int)} (h : R2 (R2 R) T U) (hT : Rect w T) : R2 (R2 R) (Go.Fid.tr w T) (Go.Fid.tr w U) := R2.same _ fun j hj => R2.col (List.mem_range.1 hj) h hT
theorem R2.rect {R : Int → Int → Prop} {w : Nat} : ∀ {T U : List (List Int)}, R2 (R2 R) T U → Rect w T → Rect w U
  | _, _, .nil, _ => fun r hr => by simp at hr
  | _, _, .cons h1 h2, hT => fun r hr => by
    rcases List.mem_cons.1 hr with e | e
    · rw [e, ← h1.length]; exact hT _ (.head _)
    · exact R2.rect h2 (fun r hr => hT r (.tail _ hr)) r e
theorem R2.trP {R : Int → Int → Prop} {w : Nat} {T U : List (List Int)} (h : R2 (R2 R) T U) (hT : Rect w T) : R2 (R2 R) (Go.Fid.trP T) (Go.Fid.trP U) := by
  by_cases h0 : 0 < T.length
  · rw [trP_eq hT (ne_len h0), trP_eq (h.rect hT) (ne_len (by rw [← h.length]; exact h0))]
    exact h.tr hT
  · have e1 := List.eq_nil_of_length_eq_zero (show T.length = 0 by omega)
    have e2 := List.eq_nil_of_length_eq_zero (show U.length = 0 by have := h.length; omega)
    rw [e1, e2]; exact .nil
theorem trP_rect {w : Nat} {T : List (List Int)} (hT : Rect w T) : Rect T.length (Go.Fid.trP T) := by
  by_cases h0 : 0 < T.length
  · rw [trP_eq hT (ne_len h0)]; exact tr_rect _ _
  · rw [List.eq_nil_of_length_eq_zero (show T.length = 0 by omega)]
    intro r hr; simp [Go.Fid.trP, Go.Fid.tr] at hr
theorem R2.low {R : Int → Int → Prop} (hR : ∀ a b c d, R a b → R c d → R ((a + c).fdiv 2) ((b + d).fdiv 2)) {w h : Nat} {px qx : List Int} (hl : px.length = w * h) (hpq : R2 R px qx) : R2 R (bLow w h px) (bLow w h qx) := by
  have r0 := rowsOf_rect hl
  have t0 := hpq.rows w h
  have t1 := t0.map (S := R2 R) (f := loS) (g := loS) fun a b q => q.lo hR
  have r1 := rect_lo r0
  have t2 := t1.trP r1
  have r2 := trP_rect r1
  have t3 := t2.map (S := R2 R) (f := loS) (g := loS) fun a b q => q.lo hR
  have r3 := rect_lo r2
  exact (t3.trP r3).flat
theorem R2.down {R S : Int → Int → Prop} (hR : ∀ a b c d, R a b → R c d → R ((a + c).fdiv 2) ((b + d).fdiv 2)) (hS : ∀ a b c d, R a b → R c d → S (a - c) (b - d)) {w h : Nat} {px qx : List Int} (hl : px.length = w * h) (hpq : R2 R px qx) : R2 S (bDown w h px) (bDown w h qx) := by
  have r0 := rowsOf_rect hl
  have t0 := hpq.rows w h
  have t1 := t0.map (S := R2 R) (f := loS) (g := loS) fun a b q => q.lo hR
  have r1 := rect_lo r0
  have t2 := t1.trP r1
  have r2 := trP_rect r1
  have t3 := t2.map (S := R2 S) (f := hiS) (g := hiS) fun a b q => q.hi hS
  have r3 := rect_hi r2
  exact (t3.trP r3).flat
theorem R2.shift (k : Int) (l : List Int) : R2 (fun a b => b = a + k) l (l.map fun a => a + k) := by
  induction l with
  | nil => exact .nil
  | cons a l ih => exact .cons rfl ih
end Go.Fid
set_option linter.unusedVariables false
set_option linter.unusedSimpArgs false
namespace Go.Fid
section
variable {P : Program} {S : SL} {B : BS} {o : Oper} {x y : Operand} {k : Nat} {T : TypeId}
end
section
variable {P : Program} {o : Oper}
end
theorem clrn_nil (k j : Nat) : Clr k [(j, none)] := clr_none (clr_nil k)
theorem clrn_hide {k j : Nat} {c : Option (List SV)} {bs : BS} (h : Clr k ((j, none) :: bs)) : Clr k ((j, none) :: (j, c) :: bs) := fun i x hi hb => h i x hi (by
  rw [bget_cons] at hb ⊢
  split at hb
  · cases hb
  · rename_i hne; rw [bget_cons, if_neg hne] at hb; rw [if_neg hne]; exact hb)
theorem clrn_at {k j q : Nat} {c : Option (List SV)} {bs : BS} (hc : ∀ x, q ≠ k → c = some x → namesAny k x = false) (h : Clr k ((j, none) :: bs)) : Clr k ((j, none) :: (q, c) :: bs) := fun i x hi hb => by
  rw [bget_cons] at hb
  split at hb
  · cases hb
  · rename_i hne
    rw [bget_cons] at hb
    split at hb
    · rename_i hq; exact hc x (fun e => hi (hq.symm.trans e)) hb
    · exact h i x hi (by rw [bget_cons, if_neg hne]; exact hb)
theorem clrn_self {k j : Nat} {x : Option (List SV)} {bs : BS} (h : Clr k ((j, none) :: bs)) : Clr k ((j, none) :: (k, x) :: bs) := clrn_at (fun _ e _ => absurd rfl e) h
theorem clrn_none {k j q : Nat} {bs : BS} (h : Clr k ((j, none) :: bs)) : Clr k ((j, none) :: (q, none) :: bs) := clrn_at (fun _ _ e => by cases e) h
theorem clrn_cons {k j q : Nat} {cs : List SV} {bs : BS} (hc : namesAny k cs = false) (h : Clr k ((j, none) :: bs)) : Clr k ((j, none) :: (q, some cs) :: bs) := clrn_at (fun x _ e => by injection e with e; subst e; exact hc) h
theorem clrn_map {α : Type} {k j q : Nat} {f : α → Dat} {l : List α} {bs : BS} (h : Clr k ((j, none) :: bs)) : Clr k ((j, none) :: (q, some (l.map (fun g => SV.d (f g)))) :: bs) := clrn_cons (namesAny_map k f l) h
theorem clrn_d {k j q : Nat} {l : List Dat} {bs : BS} (h : Clr k ((j, none) :: bs)) : Clr k ((j, none) :: (q, some (l.map SV.d)) :: bs) := clrn_cons (namesAny_map k id l) h
theorem clrn_bx {k j q : Nat} {d : Dat} {bs : BS} (h : Clr k ((j, none) :: bs)) : Clr k ((j, none) :: (q, some (bx d)) :: bs) := clrn_d h
end Go.Fid
namespace Go.Proofs.YtleidgohjckmlaaGreat
open Go.Fid
set_option maxRecDepth 4000
set_option linter.unusedVariables false
set_option linter.unusedSimpArgs false
theorem by105 : bytesB Tryz.prog 105 = some 4 := by kernel_rfl
theorem cb84 : callB Tryz.prog 84 = true := by kernel_rfl
theorem cb98 : callB Tryz.prog 98 = true := by kernel_rfl
theorem cb99 : callB Tryz.prog 99 = true := by kernel_rfl
theorem cb115 : callB Tryz.prog 115 = true := by kernel_rfl
theorem cb121 : callB Tryz.prog 121 = true := by kernel_rfl
theorem el47 : elemB Tryz.prog 47 = some (105, 1) := by kernel_rfl
theorem in91 : intB Tryz.prog 91 = some .u64 := by kernel_rfl
theorem in105 : intB Tryz.prog 105 = some .u32 := by kernel_rfl
theorem sh105 : shapeB Tryz.prog 105 = some (false, 1) := by kernel_rfl
theorem un91 : (Tryz.prog.underlying 91).isSome = true := by kernel_rfl
theorem un105 : (Tryz.prog.underlying 105).isSome = true := by kernel_rfl
theorem ze105 : zeroB Tryz.prog 105 = some [.int .u32 0] := by kernel_rfl
theorem zo105 : ZOk [.int .u32 0] [.val (.int .u32 0)] := by simp [ZOk, Value.oneCell']
theorem t_at (l : List Nat) (i : Nat) : Takes Tryz.prog 115 [(.sl 105 1 (List.map enc_u32 l)), (.val (.int .i64 (((i : Nat) : Int))))] (.val (.int .u32 ((((l.getD i 0) : Nat) : Int)))) := by
  refine fn_intro Tryz.func115 rfl cb115 rfl ?_
  show PWp _ _ _ _ ⟨[(0, (vl 105 1 enc_u32 l)), (1, (vin i))], []⟩
  refine pwp_seq <| kx [] [] (zM <| zZ) ?_
  refine pwp_seq <| pwp_seq <| kx [(8, (vb (decide (((i : Nat) : Int) < ((l.length : Nat) : Int)))))] [] (zM <| zM <| zE (oLm el47) <| zE oLt <| zZ) ?_
  refine pwp_cond rfl (fun h1 => ?_) (fun h1 => ?_)
  · replace h1 := of_decide_eq_true h1
    refine pwp_seq <| kx [(4, (vwn (l.getD i 0)))] [] (zM <| zM <| zE (oXl el47 i (0 : Nat)) <| zE (oC1 sh105) <| zM <| zZ) ?_
    refine pwp_ret ⟨_, (.tmp (d := (.val (.int .u32 ((((l.getD i 0) : Nat) : Int))))) rfl .nil), ?_⟩
    rfl
  · replace h1 := of_decide_eq_false h1
    refine pwp_skip <| pwp_seq <| kx [(4, (vwn 0))] [] (zM <| zZ) ?_
    refine pwp_ret ⟨_, (.tmp (d := (.val (.int .u32 (0)))) rfl .nil), ?_⟩
    rw [show l.getD i 0 = 0 from getD_out (by omega)]; rfl
theorem t_trim (l0 : List Nat) (hd : Dig l0) (hb : l0.length ≤ 17592186044416) : Takes Tryz.prog 84 [(.sl 105 1 (List.map enc_u32 l0))] (.sl 105 1 (List.map enc_u32 (ofNat (val l0)))) := by
  refine fn_intro Tryz.func84 rfl cb84 rfl ?_
  show PWp _ _ _ _ ⟨[(0, (vl 105 1 enc_u32 l0))], []⟩
  refine pwp_seq <| kx [] [] (zE (oNl 105 1) <| zZ) ?_
  refine pwp_seq <| pwp_block <| pwp_loop (α := List Nat) (fun l => ⟨[(0, (vl 105 1 enc_u32 l))], []⟩) (fun l => Dig l ∧ val l = val l0 ∧ l.length ≤ l0.length) (fun l => l.length) l0 wk ⟨hd, rfl, Nat.le_refl _⟩ ?_
  rintro l ⟨hl, hv, hle⟩
  refine pwp_seq <| pwp_seq <| kx [(14, (vb (decide (0 < ((l.length : Nat) : Int)) && ((((l.getD (l.length - 1) 0) : Nat) : Int) == 0))))] [] ?_ ?_
  · refine zM <| zE (oLm el47) <| zE oGt <| zE (oV (vb (decide (0 < ((l.length : Nat) : Int)))) (mv_ok (by kernel_rfl))) <| ?_
    rcases hb1 : (decide (0 < ((l.length : Nat) : Int))) with _ | _
    · replace hb1 := of_decide_eq_false hb1
      exact zK <| zK <| zK <| zK <| zK <| zK <| zK <| zE oPf <| zZ
    · replace hb1 := of_decide_eq_true hb1
      exact zM <| zM <| zE (oLm el47) <| zE (oSb (l.length - 1)) <| zE (oXl el47 (l.length - 1) (0 : Nat)) <| zE (oC1 sh105) <| zE oEq <| zE oPa <| zZ
  refine pwp_cond rfl (fun h2 => ?_) (fun h2 => ?_)
  · obtain ⟨hp, _⟩ := trim_cond h2
    refine pwp_skip <| pwp_block <| kx [(0, (vl 105 1 enc_u32 (List.take (l.length - 1) l)))] [] (zM <| zM <| zE (oLm el47) <| zE (oSb (l.length - 1)) <| zE (e_slc (l := 0) (h := (l.length - 1)) (kl := .i64) (kh := .i64) (es' := List.map enc_u32 (List.take (l.length - 1) l)) (by exact rfl) el47 (by exact rfl) (by exact rfl) (by exact rfl) (Nat.zero_le _) (by simp only [List.length_map]; omega) (by rw [List.drop_zero, List.map_take])) <| zM <| zZ) ?_
    exact ⟨(l.take (l.length - 1)), wk, (trim_step hl hv hle h2), (trim_less h2)⟩
  · refine pwp_exit <| pwp_seq <| kx [(2, (vl 105 1 enc_u32 l))] [] (zM <| zM <| zZ) ?_
    refine pwp_ret ⟨_, (.tmp (d := (.sl 105 1 (List.map enc_u32 l))) rfl .nil), ?_⟩
    rw [trim_end hl hv h2]; rfl
theorem t_plus (a b : List Nat) (hda : Dig a) (hdb : Dig b) (hla : a.length ≤ 8796093022208) (hlb : b.length ≤ 8796093022208) : Takes Tryz.prog 98 [(.sl 105 1 (List.map enc_u32 a)), (.sl 105 1 (List.map enc_u32 b))] (.sl 105 1 (List.map enc_u32 (ofNat (val a + val b)))) := by
  refine fn_intro Tryz.func98 rfl cb98 rfl ?_
  show PWp _ _ _ _ ⟨[(0, (vl 105 1 enc_u32 a)), (1, (vl 105 1 enc_u32 b))], []⟩
  refine pwp_seq <| kx [] [] (zE (oNl 105 1) <| zZ) ?_
  refine pwp_seq <| kx [(5, (.own 0 105 1 ((max a.length b.length) + 1)))] [(0, some (bm enc_u32 (List.replicate ((max a.length b.length) + 1) 0)))] (zM <| zE (oLm el47) <| zM <| zE (oLm el47) <| zE (oMx (max a.length b.length)) <| zE (oAd ((max a.length b.length) + 1)) <| zN (oMk 0 enc_u32 (0 : Nat) ((max a.length b.length) + 1) ((max a.length b.length) + 1) el47 ze105 zo105 by105) <| zM <| zZ) ?_
  refine pwp_seq <| kx [(6, (vwn 0))] [] (zM <| zZ) ?_
  refine pwp_seq <| pwp_seq <| kx [(17, (vin ((max a.length b.length) + 1))), (18, (vin 0))] [] (zM <| zE (oLo el47) <| zM <| zZ) ?_
  refine pwp_block <| pwp_loop (α := Nat × List Nat × Nat) (fun (i, out, c) => ⟨[(0, (vl 105 1 enc_u32 a)), (1, (vl 105 1 enc_u32 b)), (5, (.own 0 105 1 ((max a.length b.length) + 1))), (6, (vwn c)), (17, (vin ((max a.length b.length) + 1))), (18, (vin i))], [(0, some (bm enc_u32 out))]⟩) (fun (i, out, c) => out.length = max a.length b.length + 1 ∧ Dig out ∧ i ≤ max a.length b.length + 1 ∧ c ≤ 1 ∧ val (out.take i) + pw i * c = val (a.take i) + val (b.take i)) (fun (i, out, c) => max a.length b.length + 1 - i) (0, List.replicate (max a.length b.length + 1) 0, 0) wk ⟨by simp, dig_replicate _, Nat.zero_le _, Nat.zero_le _, by simp [val]⟩ ?_
  rintro ⟨i, out, c⟩ ⟨hlen, hdo, hi, hc, hv⟩
  have hai := hda.getD i
  have hbi := hdb.getD i
  refine pwp_seq <| kx [(19, (vb (decide (((i : Nat) : Int) < ((((max a.length b.length) + 1) : Nat) : Int)))))] [] (zE oLt <| zZ) ?_
  refine pwp_seq <| pwp_cond rfl (fun h1 => ?_) (fun h1 => ?_)
  · replace h1 := of_decide_eq_true h1
    refine pwp_skip <| pwp_seq <| pwp_block <| pwp_seq <| kx [(7, (vin i))] [] (zM <| zM <| zZ) ?_
    refine pwp_seq <| kx [(8, (vwn (((a.getD i 0) + (b.getD i 0)) + c)))] [] (zM <| zM <| zE (oCl (t_at a i)) <| zM <| zM <| zE (oCl (t_at b i)) <| zE (oAd ((a.getD i 0) + (b.getD i 0))) <| zM <| zE (oAd (((a.getD i 0) + (b.getD i 0)) + c)) <| zM <| zZ) ?_
    refine pwp_seq <| kx [(6, (vwn 0))] [] (zM <| zZ) ?_
    refine pwp_seq <| pwp_seq <| kx [(31, (vb (decide (1000000000 ≤ (((((a.getD i 0) + (b.getD i 0)) + c) : Nat) : Int)))))] [] (zM <| zE oGe <| zZ) ?_
    refine pwp_cond rfl (fun h2 => ?_) (fun h2 => ?_)
    · replace h2 := of_decide_eq_true h2
      refine kx [(6, (vwn 1)), (8, (vwn ((((a.getD i 0) + (b.getD i 0)) + c) - 1000000000)))] [] (zM <| zE (oSb ((((a.getD i 0) + (b.getD i 0)) + c) - 1000000000)) <| zM <| zM <| zZ) ?_
      refine kx [] [(0, some (bm enc_u32 (out.set i ((((a.getD i 0) + (b.getD i 0)) + c) - 1000000000))))] (zM <| zM <| zM <| zE (oXo el47 i) <| zT (oSp sh105 i ((((a.getD i 0) + (b.getD i 0)) + c) - 1000000000)) <| zZ) ?_
      refine kx [(18, (vin (i + 1)))] [] (zE (oAd (i + 1)) <| zM <| zZ) ?_
      exact ⟨(i + 1, out.set i (a.getD i 0 + b.getD i 0 + c - 1000000000), 1), wk, (by obtain ⟨q1, q2, q3⟩ := plus_step (s := a.getD i 0 + b.getD i 0 + c - 1000000000) (c' := 1) hlen hdo (by omega) hv (by omega) (by omega); exact ⟨q1, q2, by omega, by omega, q3⟩), (by first | omega | (dsimp only; omega))⟩
    · replace h2 := of_decide_eq_false h2
      refine pwp_skip <| kx [] [(0, some (bm enc_u32 (out.set i (((a.getD i 0) + (b.getD i 0)) + c))))] (zM <| zM <| zM <| zE (oXo el47 i) <| zT (oSp sh105 i (((a.getD i 0) + (b.getD i 0)) + c)) <| zZ) ?_
      refine kx [(18, (vin (i + 1)))] [] (zE (oAd (i + 1)) <| zM <| zZ) ?_
      exact ⟨(i + 1, out.set i (a.getD i 0 + b.getD i 0 + c), 0), wk, (by obtain ⟨q1, q2, q3⟩ := plus_step (s := a.getD i 0 + b.getD i 0 + c) (c' := 0) hlen hdo (by omega) hv (by omega) (by omega); exact ⟨q1, q2, by omega, by omega, q3⟩), (by first | omega | (dsimp only; omega))⟩
  · replace h1 := of_decide_eq_false h1
    have hie : i = max a.length b.length + 1 := by omega
    rw [hie] at hv
    refine pwp_exit <| pwp_seq <| pwp_sim (publish (t := 5) (k := 0) (es := List.map enc_u32 out) rfl rfl (pub_cells _ _ (fun _ => rfl)) (map_len _ _ hlen) (pub_take _ _ (fun _ => rfl) hlen)) ?_
    refine kx [(4, (vl 105 1 enc_u32 (ofNat (val out))))] [] (zM <| zE (oCl (t_trim out (by assumption) (by omega))) <| zM <| zZ) ?_
    refine pwp_ret ⟨_, (.tmp (d := (.sl 105 1 (List.map enc_u32 (ofNat (val out))))) rfl .nil), ?_⟩
    rw [plus_end hda hdb hlen hv]; rfl
theorem t_minus (a b : List Nat) (hda : Dig a) (hdb : Dig b) (hba : val b ≤ val a) (hla : a.length ≤ 8796093022208) : Takes Tryz.prog 99 [(.sl 105 1 (List.map enc_u32 a)), (.sl 105 1 (List.map enc_u32 b))] (.sl 105 1 (List.map enc_u32 (ofNat (val a - val b)))) := by
  refine fn_intro Tryz.func99 rfl cb99 rfl ?_
  show PWp _ _ _ _ ⟨[(0, (vl 105 1 enc_u32 a)), (1, (vl 105 1 enc_u32 b))], []⟩
  refine pwp_seq <| kx [] [] (zE (oNl 105 1) <| zZ) ?_
  refine pwp_seq <| kx [(5, (.own 0 105 1 a.length))] [(0, some (bm enc_u32 (List.replicate a.length 0)))] (zM <| zE (oLm el47) <| zN (oMk 0 enc_u32 (0 : Nat) a.length a.length el47 ze105 zo105 by105) <| zM <| zZ) ?_
  refine pwp_seq <| kx [(6, (vwn 0))] [] (zM <| zZ) ?_
  refine pwp_seq <| pwp_seq <| kx [(13, (vin a.length)), (14, (vin 0))] [] (zM <| zE (oLo el47) <| zM <| zZ) ?_
  refine pwp_block <| pwp_loop (α := Nat × List Nat × Nat) (fun (i, out, c) => ⟨[(0, (vl 105 1 enc_u32 a)), (1, (vl 105 1 enc_u32 b)), (5, (.own 0 105 1 a.length)), (6, (vwn c)), (13, (vin a.length)), (14, (vin i))], [(0, some (bm enc_u32 out))]⟩) (fun (i, out, c) => out.length = a.length ∧ Dig out ∧ i ≤ a.length ∧ c ≤ 1 ∧ val (out.take i) + val (b.take i) = val (a.take i) + pw i * c) (fun (i, out, c) => a.length - i) (0, List.replicate a.length 0, 0) wk ⟨by simp, dig_replicate _, Nat.zero_le _, Nat.zero_le _, by simp [val]⟩ ?_
  rintro ⟨i, out, c⟩ ⟨hlen, hdo, hi, hc, hv⟩
  have hai := hda.getD i
  have hbi := hdb.getD i
  refine pwp_seq <| kx [(15, (vb (decide (((i : Nat) : Int) < ((a.length : Nat) : Int)))))] [] (zE oLt <| zZ) ?_
  refine pwp_seq <| pwp_cond rfl (fun h1 => ?_) (fun h1 => ?_)
  · replace h1 := of_decide_eq_true h1
    refine pwp_skip <| pwp_seq <| pwp_block <| pwp_seq <| kx [(7, (vin i))] [] (zM <| zM <| zZ) ?_
    refine pwp_seq <| kx [(8, (vwn ((b.getD i 0) + c)))] [] (zM <| zM <| zE (oCl (t_at b i)) <| zM <| zE (oAd ((b.getD i 0) + c)) <| zM <| zZ) ?_
    refine pwp_seq <| kx [(6, (vwn 0))] [] (zM <| zZ) ?_
    refine pwp_seq <| kx [(27, (vb (decide ((((a.getD i 0) : Nat) : Int) < ((((b.getD i 0) + c) : Nat) : Int)))))] [] (zM <| zM <| zE (oXl el47 i (0 : Nat)) <| zE (oC1 sh105) <| zM <| zE oLt <| zZ) ?_
    refine pwp_cond rfl (fun h2 => ?_) (fun h2 => ?_)
    · replace h2 := of_decide_eq_true h2
      refine kx [(6, (vwn 1))] [(0, some (bm enc_u32 (out.set i (((a.getD i 0) + 1000000000) - ((b.getD i 0) + c)))))] (zM <| zM <| zM <| zM <| zE (oXl el47 i (0 : Nat)) <| zE (oC1 sh105) <| zE (oAd ((a.getD i 0) + 1000000000)) <| zM <| zE (oSb (((a.getD i 0) + 1000000000) - ((b.getD i 0) + c))) <| zE (oXo el47 i) <| zT (oSp sh105 i (((a.getD i 0) + 1000000000) - ((b.getD i 0) + c))) <| zM <| zZ) ?_
      refine kx [(14, (vin (i + 1)))] [] (zE (oAd (i + 1)) <| zM <| zZ) ?_
      exact ⟨(i + 1, out.set i (a.getD i 0 + 1000000000 - (b.getD i 0 + c)), 1), wk, (by obtain ⟨q1, q2, q3⟩ := minus_step (s := a.getD i 0 + 1000000000 - (b.getD i 0 + c)) (c' := 1) hlen hdo (by omega) hv (by omega) (by omega); exact ⟨q1, q2, by omega, by omega, q3⟩), (by first | omega | (dsimp only; omega))⟩
    · replace h2 := of_decide_eq_false h2
      refine kx [] [(0, some (bm enc_u32 (out.set i ((a.getD i 0) - ((b.getD i 0) + c)))))] (zM <| zM <| zM <| zM <| zE (oXl el47 i (0 : Nat)) <| zE (oC1 sh105) <| zM <| zE (oSb ((a.getD i 0) - ((b.getD i 0) + c))) <| zE (oXo el47 i) <| zT (oSp sh105 i ((a.getD i 0) - ((b.getD i 0) + c))) <| zZ) ?_
      refine kx [(14, (vin (i + 1)))] [] (zE (oAd (i + 1)) <| zM <| zZ) ?_
      exact ⟨(i + 1, out.set i (a.getD i 0 - (b.getD i 0 + c)), 0), wk, (by obtain ⟨q1, q2, q3⟩ := minus_step (s := a.getD i 0 - (b.getD i 0 + c)) (c' := 0) hlen hdo (by omega) hv (by omega) (by omega); exact ⟨q1, q2, by omega, by omega, q3⟩), (by first | omega | (dsimp only; omega))⟩
  · replace h1 := of_decide_eq_false h1
    have hie : i = a.length := by omega
    rw [hie] at hv
    refine pwp_exit <| pwp_seq <| pwp_sim (publish (t := 5) (k := 0) (es := List.map enc_u32 out) rfl rfl (pub_cells _ _ (fun _ => rfl)) (map_len _ _ hlen) (pub_take _ _ (fun _ => rfl) hlen)) ?_
    refine kx [(4, (vl 105 1 enc_u32 (ofNat (val out))))] [] (zM <| zE (oCl (t_trim out (by assumption) (by omega))) <| zM <| zZ) ?_
    refine pwp_ret ⟨_, (.tmp (d := (.sl 105 1 (List.map enc_u32 (ofNat (val out))))) rfl .nil), ?_⟩
    rw [minus_end hda hdb hdo hba hlen hv]; rfl
theorem t_times (a b : List Nat) (hda : Dig a) (hdb : Dig b) (hla : a.length ≤ 4398046511104) (hlb : b.length ≤ 4398046511104) : Takes Tryz.prog 121 [(.sl 105 1 (List.map enc_u32 a)), (.sl 105 1 (List.map enc_u32 b))] (.sl 105 1 (List.map enc_u32 (ofNat (val a * val b)))) := by
  refine fn_intro Tryz.func121 rfl cb121 rfl ?_
  show PWp _ _ _ _ ⟨[(0, (vl 105 1 enc_u32 a)), (1, (vl 105 1 enc_u32 b))], []⟩
  refine pwp_seq <| kx [] [] (zE (oNl 105 1) <| zZ) ?_
  refine pwp_seq <| kx [(5, (.own 0 105 1 (a.length + b.length)))] [(0, some (bm enc_u32 (List.replicate (a.length + b.length) 0)))] (zM <| zE (oLm el47) <| zM <| zE (oLm el47) <| zE (oAd (a.length + b.length)) <| zN (oMk 0 enc_u32 (0 : Nat) (a.length + b.length) (a.length + b.length) el47 ze105 zo105 by105) <| zM <| zZ) ?_
  refine pwp_seq <| pwp_seq <| kx [(18, (vl 105 1 enc_u32 a)), (19, (vin a.length)), (20, (vin 0))] [] (zM <| zE (oLm el47) <| zM <| zZ) ?_
  refine pwp_block <| pwp_loop (α := Nat × List Nat) (fun (i, out) => ⟨[(1, (vl 105 1 enc_u32 b)), (5, (.own 0 105 1 (a.length + b.length))), (18, (vl 105 1 enc_u32 a)), (19, (vin a.length)), (20, (vin i))], [(0, some (bm enc_u32 out))]⟩) (fun (i, out) => out.length = a.length + b.length ∧ Dig out ∧ i ≤ a.length ∧ (∀ k, i + b.length ≤ k → out.getD k 0 = 0) ∧ val out = val (a.take i) * val b) (fun (i, out) => a.length - i) (0, List.replicate (a.length + b.length) 0) wk ⟨by simp, dig_replicate _, Nat.zero_le _, fun k _ => getD_replicate _ k, by simp [val, val_replicate]⟩ ?_
  rintro ⟨i, out⟩ ⟨hlen, hdo, hi, hz, hv⟩
  have hai := hda.getD i
  refine pwp_seq <| kx [(21, (vb (decide (((i : Nat) : Int) < ((a.length : Nat) : Int)))))] [] (zE oLt <| zZ) ?_
  refine pwp_seq <| pwp_cond rfl (fun h1 => ?_) (fun h1 => ?_)
  · replace h1 := of_decide_eq_true h1
    refine pwp_skip <| pwp_seq <| pwp_block <| pwp_seq <| kx [(6, (vin i)), (7, (vwn (a.getD i 0)))] [] (zM <| zE (oXl el47 i (0 : Nat)) <| zE (oC1 sh105) <| zM <| zM <| zZ) ?_
    refine pwp_seq <| kx [(8, (vqn 0))] [] (zM <| zZ) ?_
    refine pwp_seq <| pwp_seq <| kx [(25, (vl 105 1 enc_u32 b)), (26, (vin b.length)), (27, (vin 0))] [] (zM <| zE (oLm el47) <| zM <| zZ) ?_
    refine pwp_block <| pwp_loop (α := Nat × List Nat × Nat) (fun (j, o2, c) => ⟨[(1, (vl 105 1 enc_u32 b)), (5, (.own 0 105 1 (a.length + b.length))), (6, (vin i)), (7, (vwn (a.getD i 0))), (8, (vqn c)), (18, (vl 105 1 enc_u32 a)), (19, (vin a.length)), (20, (vin i)), (25, (vl 105 1 enc_u32 b)), (26, (vin b.length)), (27, (vin j))], [(0, some (bm enc_u32 o2))]⟩) (fun (j, o2, c) => o2.length = a.length + b.length ∧ Dig o2 ∧ j ≤ b.length ∧ c < 1000000000 ∧ (∀ k, i + b.length ≤ k → o2.getD k 0 = 0) ∧ val o2 + pw (i + j) * c = val (a.take i) * val b + pw i * (a.getD i 0 * val (b.take j))) (fun (j, o2, c) => b.length - j) (0, out, 0) wk ⟨hlen, hdo, Nat.zero_le _, by decide, hz, by simp [val, hv]⟩ ?_
    rintro ⟨j, o2, c⟩ ⟨hlen2, hdo2, hj, hc, hz2, hv2⟩
    have hbj := hdb.getD j
    have hoj := hdo2.getD (i + j)
    have hpq : a.getD i 0 * b.getD j 0 ≤ 999999999 * 999999999 := Nat.mul_le_mul (by omega) (by omega)
    refine pwp_seq <| kx [(28, (vb (decide (((j : Nat) : Int) < ((b.length : Nat) : Int)))))] [] (zE oLt <| zZ) ?_
    refine pwp_seq <| pwp_cond rfl (fun h2 => ?_) (fun h2 => ?_)
    · replace h2 := of_decide_eq_true h2
      refine pwp_skip <| pwp_seq <| pwp_block <| pwp_seq <| kx [(9, (vin j)), (10, (vwn (b.getD j 0)))] [] (zM <| zE (oXl el47 j (0 : Nat)) <| zE (oC1 sh105) <| zM <| zM <| zZ) ?_
      refine pwp_seq <| kx [(11, (vqn (((o2.getD (i + j) 0) + ((a.getD i 0) * (b.getD j 0))) + c)))] [] (zM <| zM <| zM <| zE (oAd (i + j)) <| zE (oXo el47 (i + j)) <| zR (oLp sh105 (i + j) (0 : Nat)) <| zE (oCv un105 in91 (o2.getD (i + j) 0)) <| zM <| zE (oCv un105 in91 (a.getD i 0)) <| zM <| zE (oCv un105 in91 (b.getD j 0)) <| zE (oMl ((a.getD i 0) * (b.getD j 0))) <| zE (oAd ((o2.getD (i + j) 0) + ((a.getD i 0) * (b.getD j 0)))) <| zM <| zE (oAd (((o2.getD (i + j) 0) + ((a.getD i 0) * (b.getD j 0))) + c)) <| zM <| zZ) ?_
      refine kx [(8, (vqn ((((o2.getD (i + j) 0) + ((a.getD i 0) * (b.getD j 0))) + c) / 1000000000)))] [(0, some (bm enc_u32 (o2.set (i + j) ((((o2.getD (i + j) 0) + ((a.getD i 0) * (b.getD j 0))) + c) % 1000000000))))] (zM <| zM <| zM <| zE (oAd (i + j)) <| zM <| zE (oRe ((((o2.getD (i + j) 0) + ((a.getD i 0) * (b.getD j 0))) + c) % 1000000000)) <| zE (oCv un91 in105 ((((o2.getD (i + j) 0) + ((a.getD i 0) * (b.getD j 0))) + c) % 1000000000)) <| zM <| zE (oQu ((((o2.getD (i + j) 0) + ((a.getD i 0) * (b.getD j 0))) + c) / 1000000000)) <| zE (oXo el47 (i + j)) <| zT (oSp sh105 (i + j) ((((o2.getD (i + j) 0) + ((a.getD i 0) * (b.getD j 0))) + c) % 1000000000)) <| zM <| zZ) ?_
      refine kx [(27, (vin (j + 1)))] [] (zE (oAd (j + 1)) <| zM <| zZ) ?_
      exact ⟨(j + 1, o2.set (i + j) ((o2.getD (i + j) 0 + a.getD i 0 * b.getD j 0 + c) % 1000000000), (o2.getD (i + j) 0 + a.getD i 0 * b.getD j 0 + c) / 1000000000), wk, (by obtain ⟨q1, q2⟩ := times_step (by omega) hdo2 hv2 rfl (val_take_succ b j); exact ⟨by simpa using hlen2, q1, by omega, by omega, zero_set (by omega) hz2, q2⟩), (by first | omega | (dsimp only; omega))⟩
    · replace h2 := of_decide_eq_false h2
      have hje : j = b.length := by omega
      rw [hje] at hv2
      refine pwp_exit <| kx [] [(0, some (bm enc_u32 (o2.set (i + b.length) c)))] (zM <| zM <| zM <| zE (oLm el47) <| zE (oAd (i + b.length)) <| zM <| zE (oCv un91 in105 c) <| zE (oXo el47 (i + b.length)) <| zT (oSp sh105 (i + b.length) c) <| zZ) ?_
      refine kx [(20, (vin (i + 1)))] [] (zE (oAd (i + 1)) <| zM <| zZ) ?_
      exact ⟨(i + 1, o2.set (i + b.length) c), wk, (by obtain ⟨q1, q2, q3, q4⟩ := times_row hdo2 (by omega) hlen2 hz2 hc hv2; exact ⟨q1, q2, by omega, q3, q4⟩), (by first | omega | (dsimp only; omega))⟩
  · replace h1 := of_decide_eq_false h1
    have hie : i = a.length := by omega
    rw [hie, List.take_length] at hv
    refine pwp_exit <| pwp_seq <| pwp_sim (publish (t := 5) (k := 0) (es := List.map enc_u32 out) rfl rfl (pub_cells _ _ (fun _ => rfl)) (map_len _ _ hlen) (pub_take _ _ (fun _ => rfl) hlen)) ?_
    refine kx [(4, (vl 105 1 enc_u32 (ofNat (val out))))] [] (zM <| zE (oCl (t_trim out (by assumption) (by omega))) <| zM <| zZ) ?_
    refine pwp_ret ⟨_, (.tmp (d := (.sl 105 1 (List.map enc_u32 (ofNat (val out))))) rfl .nil), ?_⟩
    rw [hv]; rfl
end Go.Proofs.YtleidgohjckmlaaGreat
