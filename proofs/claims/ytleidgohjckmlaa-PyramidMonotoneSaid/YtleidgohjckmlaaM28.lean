/- Part 28 of a proof: rules, plain facts, and functions walked. -/
import Derived.Test.YtleidgohjckmlaaM21
import Derived.Test.YtleidgohjckmlaaM17
import Derived.Test.YtleidgohjckmlaaM27
set_option linter.unusedVariables false
set_option linter.unusedSimpArgs false
namespace Go.Proofs.Ytleidgohjckmlaa
open Go.Fid
theorem kn_r : RstOk 3 2 [5, 2, 9, 4, 4, 0] := ⟨by decide, by decide, by decide, by decide, rfl, fun x hx => by simp at hx; omega⟩
theorem kn_s : RstOk 3 1 [0, 0, 16] := ⟨by decide, by decide, by decide, by decide, rfl, fun x hx => by simp at hx; omega⟩
def bndLen (b : RBnd) : Prop := b.low.length ≤ 1000000 ∧ b.right.length ≤ 1000000 ∧ b.down.length ≤ 1000000 ∧ b.corner.length ≤ 1000000
theorem bnd_len {w h : Nat} {m : Int} {l r d c : List Int} (hv : BndOk w h l r d c) : bndLen (RBnd.mk ((w : Nat) : Int) ((h : Nat) : Int) m l r d c) := by
  obtain ⟨w1, w2, h1, h2, v1, v2, v3, v4, _⟩ := hv
  have q : ∀ a b : Nat, a ≤ 64 → b ≤ 64 → a * b ≤ 1000000 := fun a b ha hb => Nat.le_trans (Nat.mul_le_mul ha hb) (by decide)
  refine ⟨?_, ?_, ?_, ?_⟩
  · show l.length ≤ 1000000; rw [v1]; exact q _ _ (by omega) (by omega)
  · show r.length ≤ 1000000; rw [v2]; exact q _ _ (by omega) (by omega)
  · show d.length ≤ 1000000; rw [v3]; exact q _ _ (by omega) (by omega)
  · show c.length ≤ 1000000; rw [v4]; exact q _ _ (by omega) (by omega)
end Go.Proofs.Ytleidgohjckmlaa
set_option linter.unusedVariables false
set_option linter.unusedSimpArgs false
namespace Go.Fid
def upE (more : List Nat) (mx : Int) (px : List Int) (q : Nat) : Int := if q < more.length then min (px.getD q 0 + ((more.getD q 0 : Nat) : Int)) mx else px.getD q 0
def upM (more : List Nat) (mx : Int) (px : List Int) (i : Nat) : List Int := (List.range px.length).map fun q => if q < i then upE more mx px q else px.getD q 0
theorem upM_len (more : List Nat) (mx : Int) (px : List Int) (i : Nat) : (upM more mx px i).length = px.length := by simp [upM]
theorem upM_0 (more : List Nat) (mx : Int) (px : List Int) : upM more mx px 0 = px := by
  unfold upM
  simp only [Nat.not_lt_zero, if_false]
  exact py_range_getD 0 px
theorem upM_get {more : List Nat} {mx : Int} {px : List Int} {i : Nat} (h : i < px.length) : (upM more mx px i).getD i 0 = px.getD i 0 := by
  unfold upM; rw [range_getD h, if_neg (Nat.lt_irrefl i)]
theorem upM_set {more : List Nat} {mx : Int} {px : List Int} {i : Nat} (h : i < px.length) (hm : i < more.length) : (upM more mx px i).set i (min (px.getD i 0 + ((more.getD i 0 : Nat) : Int)) mx) = upM more mx px (i + 1) := by
  apply List.ext_getElem
  · simp [upM]
  · intro n h1 h2
    simp only [upM, List.length_map, List.length_range, List.length_set] at h1 h2
    rw [List.getElem_set]
    split
    · rename_i e; subst e
      simp [upM, upE, hm]
    · rename_i e
      simp only [upM, List.getElem_map, List.getElem_range]
      by_cases hn : n < i
      · rw [if_pos hn, if_pos (by omega)]
      · rw [if_neg hn, if_neg (by omega)]
theorem upM_skip {more : List Nat} {mx : Int} {px : List Int} {i : Nat} (hm : ¬ i < more.length) : upM more mx px i = upM more mx px (i + 1) := by
  unfold upM
  refine List.map_congr_left fun q _ => ?_
  by_cases hn : q < i
  · rw [if_pos hn, if_pos (by omega)]
  · rw [if_neg hn]
    by_cases he : q < i + 1
    · rw [if_pos he, upE, if_neg (by omega)]
    · rw [if_neg he]
def pyUp (more : List Nat) (mx : Int) (px : List Int) : List Int := upM more mx px px.length
theorem up_r2 {more : List Nat} {mx : Int} {px : List Int} (hp : ∀ x ∈ px, 0 ≤ x ∧ x ≤ mx) : R2 (fun a b => a ≤ b) px (pyUp more mx px) ∧ ∀ x ∈ pyUp more mx px, 0 ≤ x ∧ x ≤ mx := by
  have key : ∀ q, q < px.length → px.getD q 0 ≤ upE more mx px q ∧ 0 ≤ upE more mx px q ∧ upE more mx px q ≤ mx := fun q hq => by
    have := hp (px.getD q 0) (by rw [List.getD_eq_getElem?_getD, List.getElem?_eq_getElem hq]; exact List.getElem_mem hq)
    unfold upE; split <;> omega
  constructor
  · refine R2.of 0 0 (upM_len _ _ _ _).symm fun i hi => ?_
    unfold pyUp upM
    rw [range_getD hi, if_pos hi]; exact (key i hi).1
  · intro x hx
    obtain ⟨q, hq, rfl⟩ := List.mem_map.1 hx
    have hq := List.mem_range.1 hq
    rw [if_pos hq]; exact (key q hq).2
theorem up_rst {w h : Nat} {more : List Nat} {mx : Int} {px : List Int} (hv : RstOk w h px) (m2 : mx ≤ 65535) (hp : ∀ x ∈ px, 0 ≤ x ∧ x ≤ mx) : RstOk w h (pyUp more mx px) := by
  have hu := (up_r2 (more := more) hp).2
  obtain ⟨w1, w2, h1, h2, hl, _⟩ := hv
  exact ⟨w1, w2, h1, h2, by rw [pyUp, upM_len, hl], fun x hx => by have := hu x hx; omega⟩
theorem up_chk {w h : Nat} {more : List Nat} {mx : Int} {px : List Int} (hv : RstOk w h px) (m1 : 1 ≤ mx) (m2 : mx ≤ 65535) (hp : ∀ x ∈ px, 0 ≤ x ∧ x ≤ mx) : chkC ((w : Nat) : Int) ((h : Nat) : Int) mx (pyUp more mx px) = 0 := by
  obtain ⟨w1, w2, h1, h2, hl, _⟩ := hv
  exact rst_chk w1 w2 h1 h2 (by rw [pyUp, upM_len, hl]) m1 m2 (px_ok.2 (up_r2 hp).2)
def pyMin : List Int → Int
  | [] => 0
  | a :: l => l.foldl (fun m x => min m x) a
def pyMax : List Int → Int
  | [] => 0
  | a :: l => l.foldl (fun m x => max m x) a
theorem foldl_min_le : ∀ (l : List Int) (a : Int), l.foldl (fun m x => min m x) a ≤ a ∧ ∀ x ∈ l, l.foldl (fun m x => min m x) a ≤ x
  | [], a => ⟨Int.le_refl _, fun x hx => absurd hx List.not_mem_nil⟩
  | b :: l, a => by
    have ih := foldl_min_le l (min a b)
    simp only [List.foldl_cons]
    refine ⟨by omega, fun x hx => ?_⟩
    rcases List.mem_cons.1 hx with e | e
    · subst e; omega
    · exact ih.2 x e
theorem foldl_le_max : ∀ (l : List Int) (a : Int), a ≤ l.foldl (fun m x => max m x) a ∧ ∀ x ∈ l, x ≤ l.foldl (fun m x => max m x) a
  | [], a => ⟨Int.le_refl _, fun x hx => absurd hx List.not_mem_nil⟩
  | b :: l, a => by
    have ih := foldl_le_max l (max a b)
    simp only [List.foldl_cons]
    refine ⟨by omega, fun x hx => ?_⟩
    rcases List.mem_cons.1 hx with e | e
    · subst e; omega
    · exact ih.2 x e
theorem pyMin_le {l : List Int} : ∀ x ∈ l, pyMin l ≤ x := fun x hx => by
  cases l with
  | nil => exact absurd hx List.not_mem_nil
  | cons a l =>
    have := foldl_min_le l a
    rcases List.mem_cons.1 hx with e | e
    · rw [e]; exact this.1
    · exact this.2 x e
theorem le_pyMax {l : List Int} : ∀ x ∈ l, x ≤ pyMax l := fun x hx => by
  cases l with
  | nil => exact absurd hx List.not_mem_nil
  | cons a l =>
    have := foldl_le_max l a
    rcases List.mem_cons.1 hx with e | e
    · rw [e]; exact this.1
    · exact this.2 x e
theorem pyMin_1 {l : List Int} (h : 0 < l.length) : l.getD 0 0 = pyMin (l.take 1) := by
  cases l with
  | nil => simp at h
  | cons a l => simp [pyMin]
theorem pyMax_1 {l : List Int} (h : 0 < l.length) : l.getD 0 0 = pyMax (l.take 1) := by
  cases l with
  | nil => simp at h
  | cons a l => simp [pyMax]
theorem pyMin_app {l : List Int} (b : Int) (h : l ≠ []) : min (pyMin l) b = pyMin (l ++ [b]) := by
  cases l with
  | nil => exact absurd rfl h
  | cons a l => simp [pyMin, List.foldl_append]
theorem pyMax_app {l : List Int} (b : Int) (h : l ≠ []) : max (pyMax l) b = pyMax (l ++ [b]) := by
  cases l with
  | nil => exact absurd rfl h
  | cons a l => simp [pyMax, List.foldl_append]
theorem take_ne {l : List Int} {i : Nat} (h1 : 1 ≤ i) (h : i < l.length) : l.take i ≠ [] := fun e => by
  have := congrArg List.length e; rw [List.length_take, List.length_nil] at this; omega
theorem pyMin_step {l : List Int} {i : Nat} (h1 : 1 ≤ i) (h : i < l.length) : min (pyMin (l.take i)) (l.getD i 0) = pyMin (l.take (i + 1)) := by
  rw [pyMin_app _ (take_ne h1 h), take_one h]
theorem pyMax_step {l : List Int} {i : Nat} (h1 : 1 ≤ i) (h : i < l.length) : max (pyMax (l.take i)) (l.getD i 0) = pyMax (l.take (i + 1)) := by
  rw [pyMax_app _ (take_ne h1 h), take_one h]
theorem foldl_min_mem : ∀ (l : List Int) (a : Int), l.foldl (fun m x => min m x) a ∈ a :: l
  | [], a => .head _
  | b :: l, a => by
    have ih := foldl_min_mem l (min a b)
    simp only [List.foldl_cons]
    rcases List.mem_cons.1 ih with e | e
    · rw [e]
      rcases Int.le_total a b with h | h
      · rw [Int.min_eq_left h]; exact .head _
      · rw [Int.min_eq_right h]; exact .tail _ (.head _)
    · exact .tail _ (.tail _ e)
theorem pyMin_mem {l : List Int} (h : 0 < l.length) : pyMin l ∈ l := by
  cases l with
  | nil => exact absurd h (by decide)
  | cons a l => exact foldl_min_mem l a
theorem nat_getD {l : List Nat} {n : Nat} (h : ∀ x ∈ l, x ≤ n) (i : Nat) : l.getD i 0 ≤ n := by
  by_cases hi : i < l.length
  · rw [List.getD_eq_getElem?_getD, List.getElem?_eq_getElem hi]; exact h _ (List.getElem_mem hi)
  · rw [List.getD_eq_getElem?_getD, List.getElem?_eq_none (by omega)]; exact Nat.zero_le _
theorem getD_mem {l : List Int} {i : Nat} (h : i < l.length) : l.getD i 0 ∈ l := by
  rw [List.getD_eq_getElem?_getD, List.getElem?_eq_getElem h]; exact List.getElem_mem h
end Go.Fid
namespace Go.Proofs.Ytleidgohjckmlaa
open Go.Fid
set_option maxRecDepth 4000
set_option linter.unusedVariables false
set_option linter.unusedSimpArgs false
theorem cb6 : callB Try.prog 6 = true := by kernel_rfl
theorem p_known  : Takes Try.prog 6 [] (.val (.bool (true))) := by
  have hkr := kn_r
  have hks := kn_s
  let y1 := [((5 : Nat) : Int), ((2 : Nat) : Int), ((9 : Nat) : Int), ((4 : Nat) : Int), ((4 : Nat) : Int), ((0 : Nat) : Int)]
  refine fn_intro Try.func6 rfl cb6 rfl ?_
  show PWp _ _ _ _ ⟨[], []⟩
  refine pwp_seq <| kx [] [] (zM <| zZ) ?_
  refine pwp_seq <| kx [(1, (.ref 0 0))] [(0, some (bx (encRst (RRst.mk ((3 : Nat) : Int) ((2 : Nat) : Int) ((9 : Nat) : Int) y1))))] (zE (oBs el22 ze3 zo3) <| zE (oBd pl24 ze24 zo24) <| zN (oAl 0 ze24 zo24) <| zT (oSt sh24) <| zZ) ?_
  refine pwp_seq <| kx [(2, (.ref 1 0)), (3, (vi 0))] [(1, some (bx (encBnd (RBnd.mk ((3 : Nat) : Int) ((2 : Nat) : Int) ((9 : Nat) : Int) (bLow 3 2 y1) (bRight 3 2 y1) (bDown 3 2 y1) (bCorner 3 2 y1)))))] (zR (oLa sh24) <| zE (oCl (p_splO 3 2 ((9 : Nat) : Int) y1 kn_r (by decide +kernel) (by decide +kernel))) <| zM <| zE oEx <| zE oEx <| zN (oAl 1 ze44 zo44) <| zT (oSt sh44) <| zM <| zZ) ?_
  refine pwp_seq <| kx [(4, (.ref 2 0)), (5, (vi 0))] [(2, some (bx (encRst (RRst.mk ((3 : Nat) : Int) ((2 : Nat) : Int) ((9 : Nat) : Int) (pxJ 3 2 (bLow 3 2 y1) (bRight 3 2 y1) (bDown 3 2 y1) (bCorner 3 2 y1))))))] (zR (oLa sh44) <| zE (oCl (p_joV 3 2 ((9 : Nat) : Int) (bLow 3 2 y1) (bRight 3 2 y1) (bDown 3 2 y1) (bCorner 3 2 y1) (by decide +kernel) (by decide +kernel) (by decide +kernel) (by decide +kernel) (by decide +kernel) (bands_ok kn_r) (by decide +kernel))) <| zM <| zE oEx <| zE oEx <| zN (oAl 2 ze24 zo24) <| zT (oSt sh24) <| zM <| zZ) ?_
  refine pwp_seq <| kx [(6, (.ref 3 0)), (7, (vi 0))] [(3, some (bx (encRst (RRst.mk ((3 : Nat) : Int) ((1 : Nat) : Int) ((16 : Nat) : Int) (smV 3 1 [((0 : Nat) : Int), ((0 : Nat) : Int), ((16 : Nat) : Int)])))))] (zE (oBs el22 ze3 zo3) <| zE (oBd pl24 ze24 zo24) <| zE (oCl (p_smo 3 1 ((16 : Nat) : Int) [((0 : Nat) : Int), ((0 : Nat) : Int), ((16 : Nat) : Int)] kn_s (by decide +kernel) (by decide +kernel))) <| zM <| zE oEx <| zE oEx <| zN (oAl 3 ze24 zo24) <| zT (oSt sh24) <| zM <| zZ) ?_
  refine pwp_seq <| kx [(8, (.ref 4 0)), (9, (vi 0))] [(4, some (bx (encR (ofQ (Rat.divInt (pySum y1) ((y1.length : Nat) : Int))))))] (zR (oLa sh24) <| zE (oCl (p_mean 3 2 ((9 : Nat) : Int) y1 kn_r (by decide +kernel) (by decide +kernel))) <| zM <| zE oEx <| zE oEx <| zN (oAl 4 ze34 zo34) <| zT (oSt sh34) <| zM <| zZ) ?_
  refine pwp_seq <| kd [(0, (vb true))] [] mo (wM <| wM <| wE (oAd 0 (hr := by decide)) <| wM <| wE (oAd 0 (hr := by decide)) <| wM <| wE (oAd 0 (hr := by decide)) <| wE (oBk true oEq) <| wM <| wE (oFr fo44_3) <| wR (oL1 sh22) <| wE (oBs el22 ze3 zo3) <| wE (oBk true (oCl (p_eq (bLow 3 2 y1) [((3 : Nat) : Int), ((4 : Nat) : Int)] (by decide +kernel))) (by exact beq_iff_eq.2 (by decide +kernel))) <| wE oPt <| wM <| wE (oFr fo44_4) <| wR (oL1 sh22) <| wE (oBs el22 ze3 zo3) <| wE (oBk true (oCl (p_eq (bRight 3 2 y1) [((1 : Nat) : Int)] (by decide +kernel))) (by exact beq_iff_eq.2 (by decide +kernel))) <| wE oPt <| wM <| wE (oFr fo44_5) <| wR (oL1 sh22) <| wE (oBs el22 ze3 zo3) <| wE (oBk true (oCl (p_eq (bDown 3 2 y1) [-1, ((9 : Nat) : Int)] (by decide +kernel))) (by exact beq_iff_eq.2 (by decide +kernel))) <| wE oPt <| wM <| wE (oFr fo44_6) <| wR (oL1 sh22) <| wE (oBs el22 ze3 zo3) <| wE (oBk true (oCl (p_eq (bCorner 3 2 y1) [((3 : Nat) : Int)] (by decide +kernel))) (by exact beq_iff_eq.2 (by decide +kernel))) <| wE oPt <| wM <| wR (oLa sh24) <| wR (oLa sh24) <| wE (oBk true (oCl (p_same ((3 : Nat) : Int) ((2 : Nat) : Int) ((9 : Nat) : Int) (pxJ 3 2 (bLow 3 2 y1) (bRight 3 2 y1) (bDown 3 2 y1) (bCorner 3 2 y1)) ((3 : Nat) : Int) ((2 : Nat) : Int) ((9 : Nat) : Int) y1 (by decide +kernel))) (by exact (by decide +kernel))) <| wE oPt <| wM <| wE (oFr fo24_3) <| wR (oL1 sh22) <| wE (oBs el22 ze3 zo3) <| wE (oBk true (oCl (p_eq (smV 3 1 [((0 : Nat) : Int), ((0 : Nat) : Int), ((16 : Nat) : Int)]) [((0 : Nat) : Int), ((4 : Nat) : Int), ((12 : Nat) : Int)] (by decide +kernel))) (by exact beq_iff_eq.2 (by decide +kernel))) <| wE oPt <| wM <| wR (oLa sh34) <| wE (oCl (p_rint ((4 : Nat) : Int) (by omega) (by omega))) <| wE (oBk true (oCl (p_samR (Rat.divInt (pySum y1) ((y1.length : Nat) : Int)) (ql_up (mean_ql (by assumption)) (by decide)) ((4 : Int) : Rat) (ql_up (ql_int (z := 4) (n := 3) (lenZ_int (by omega) (by omega)) (by decide)) (by decide)))) (by exact decide_eq_true (by decide +kernel))) <| wE oPt <| wM <| wZ) ?_
  refine pwp_ret ⟨_, (.tmp (d := (.val (.bool (true)))) rfl .nil), ?_⟩
  rfl
end Go.Proofs.Ytleidgohjckmlaa
namespace Go.Proofs.Ytleidgohjckmlaa
open Go.Fid
set_option maxRecDepth 4000
set_option linter.unusedVariables false
set_option linter.unusedSimpArgs false
end Go.Proofs.Ytleidgohjckmlaa
namespace Go.Proofs.Ytleidgohjckmlaa
open Go.Fid
set_option maxRecDepth 4000
set_option linter.unusedVariables false
set_option linter.unusedSimpArgs false
theorem cb18 : callB Try.prog 18 = true := by kernel_rfl
theorem sh5 : shapeB Try.prog 5 = some (false, 1) := by kernel_rfl
theorem un5 : (Try.prog.underlying 5).isSome = true := by kernel_rfl
theorem p_cloneO (l : List Int) (hb : l.length ≤ 1000000) (h0 : 0 < l.length) : TakesO Try.prog 18 [(.sl 3 1 (List.map enc_i64 l))] 3 1 l.length (List.map enc_i64 l) := by
  refine fn_introO Try.func18 rfl cb18 rfl h0 ?_
  show PWp _ _ _ _ ⟨[(0, (vl 3 1 enc_i64 l))], []⟩
  refine pwp_seq <| kx [] [] (zE (oNl 3 1) <| zZ) ?_
  refine pwp_seq <| pwp_seq <| pwp_nilq rfl rfl rfl rfl rfl rfl el22 rfl rfl rfl (fun nb hnb => ?_)
  refine pwp_cond (b := nb) rfl (fun h1 => ?_) (fun h1 => ?_)
  · have q := congrArg List.length (hnb h1); simp only [List.length_map, List.length_nil] at q; omega
  · refine pwp_skip <| pwp_seq <| kf [(2, (.own 0 3 1 (([] ++ l).length)))] [(0, some (bm enc_i64 ([] ++ l)))] (zN (oBo 0 el22 ze3 zo3) <| zM <| zA enc_i64 [] l rfl el22 ze3 by3 <| zM <| zF) ?_
    refine pwp_ret ⟨2, 0, rfl, rfl, (bm enc_i64 ([] ++ l)), rfl, ?_⟩
    exact own_prefix _ (j := l.length) (by simp)
end Go.Proofs.Ytleidgohjckmlaa
namespace Go.Proofs.Ytleidgohjckmlaa
open Go.Fid
set_option maxRecDepth 4000
set_option linter.unusedVariables false
set_option linter.unusedSimpArgs false
theorem cb22 : callB Try.prog 22 = true := by kernel_rfl
theorem cb23 : callB Try.prog 23 = true := by kernel_rfl
theorem p_min (l : List Int) (h0 : 0 < l.length) (hb : l.length ≤ 1000000) : Takes Try.prog 22 [(.sl 3 1 (List.map enc_i64 l))] (.val (.int .i64 ((pyMin l)))) := by
  refine fn_intro Try.func22 rfl cb22 rfl ?_
  show PWp _ _ _ _ ⟨[(0, (vl 3 1 enc_i64 l))], []⟩
  refine pwp_seq <| kx [] [] (zM <| zZ) ?_
  refine pwp_seq <| pwp_seq <| kx [(7, (vb false))] [] (zM <| zE (oLm el22) <| zE (oBk false oLt (by exact decide_eq_false (by omega))) <| zZ) ?_
  refine pwp_cond (b := false) (by kernel_rfl) (fun h => by cases h) (fun _ => ?_)
  refine pwp_skip <| pwp_seq <| kx [(3, (vi (l.getD 0 0)))] [] (zM <| zE (oXl el22 0 (0 : Int)) <| zE (oC1 sh3) <| zM <| zZ) ?_
  refine pwp_seq <| pwp_seq <| kx [(4, (vin 1))] [] (zM <| zZ) ?_
  refine pwp_block <| pwp_loop (α := Nat × Int) (fun (k, m) => ⟨[(0, (vl 3 1 enc_i64 l)), (3, (vi m)), (4, (vin k))], []⟩) (fun (k, m) => 1 ≤ k ∧ k ≤ l.length ∧ m = pyMin (l.take k)) (fun (k, m) => l.length - k) (1, l.getD 0 0) wk ⟨by decide, by omega, pyMin_1 h0⟩ ?_
  rintro ⟨k, m⟩ ⟨hk1, hk2, hm⟩
  refine pwp_seq <| pwp_seq <| kx [(15, (vb (decide (((k : Nat) : Int) < ((l.length : Nat) : Int)))))] [] (zM <| zM <| zE (oLm el22) <| zE oLt <| zZ) ?_
  refine pwp_cond rfl (fun h1 => ?_) (fun h1 => ?_)
  · replace h1 := of_decide_eq_true h1
    refine pwp_skip <| pwp_seq <| pwp_block <| kx [(3, (vi (min m (l.getD k 0))))] [] (zM <| zM <| zM <| zE (oXl el22 k (0 : Int)) <| zE (oC1 sh3) <| zE (zMn (min m (l.getD k 0)) (hr := by first | omega | (dsimp only; omega))) <| zM <| zZ) ?_
    refine kx [(4, (vin (k + 1)))] [] (zM <| zE (oAd (k + 1)) <| zM <| zZ) ?_
    exact ⟨(k + 1, min m (l.getD k 0)), wk, ⟨by omega, by omega, by rw [hm]; exact pyMin_step hk1 (by omega)⟩, (by first | omega | (dsimp only; omega))⟩
  · replace h1 := of_decide_eq_false h1
    refine pwp_exit <| pwp_seq <| kx [(2, (vi m))] [] (zM <| zM <| zZ) ?_
    refine pwp_ret ⟨_, (.tmp (d := (.val (.int .i64 (m)))) rfl .nil), ?_⟩
    rw [hm, show k = l.length by omega, List.take_length]; rfl
theorem p_max (l : List Int) (h0 : 0 < l.length) (hb : l.length ≤ 1000000) : Takes Try.prog 23 [(.sl 3 1 (List.map enc_i64 l))] (.val (.int .i64 ((pyMax l)))) := by
  refine fn_intro Try.func23 rfl cb23 rfl ?_
  show PWp _ _ _ _ ⟨[(0, (vl 3 1 enc_i64 l))], []⟩
  refine pwp_seq <| kx [] [] (zM <| zZ) ?_
  refine pwp_seq <| pwp_seq <| kx [(7, (vb false))] [] (zM <| zE (oLm el22) <| zE (oBk false oLt (by exact decide_eq_false (by omega))) <| zZ) ?_
  refine pwp_cond (b := false) (by kernel_rfl) (fun h => by cases h) (fun _ => ?_)
  refine pwp_skip <| pwp_seq <| kx [(3, (vi (l.getD 0 0)))] [] (zM <| zE (oXl el22 0 (0 : Int)) <| zE (oC1 sh3) <| zM <| zZ) ?_
  refine pwp_seq <| pwp_seq <| kx [(4, (vin 1))] [] (zM <| zZ) ?_
  refine pwp_block <| pwp_loop (α := Nat × Int) (fun (k, m) => ⟨[(0, (vl 3 1 enc_i64 l)), (3, (vi m)), (4, (vin k))], []⟩) (fun (k, m) => 1 ≤ k ∧ k ≤ l.length ∧ m = pyMax (l.take k)) (fun (k, m) => l.length - k) (1, l.getD 0 0) wk ⟨by decide, by omega, pyMax_1 h0⟩ ?_
  rintro ⟨k, m⟩ ⟨hk1, hk2, hm⟩
  refine pwp_seq <| pwp_seq <| kx [(15, (vb (decide (((k : Nat) : Int) < ((l.length : Nat) : Int)))))] [] (zM <| zM <| zE (oLm el22) <| zE oLt <| zZ) ?_
  refine pwp_cond rfl (fun h1 => ?_) (fun h1 => ?_)
  · replace h1 := of_decide_eq_true h1
    refine pwp_skip <| pwp_seq <| pwp_block <| kx [(3, (vi (max m (l.getD k 0))))] [] (zM <| zM <| zM <| zE (oXl el22 k (0 : Int)) <| zE (oC1 sh3) <| zE (zMx (max m (l.getD k 0)) (hr := by first | omega | (dsimp only; omega))) <| zM <| zZ) ?_
    refine kx [(4, (vin (k + 1)))] [] (zM <| zE (oAd (k + 1)) <| zM <| zZ) ?_
    exact ⟨(k + 1, max m (l.getD k 0)), wk, ⟨by omega, by omega, by rw [hm]; exact pyMax_step hk1 (by omega)⟩, (by first | omega | (dsimp only; omega))⟩
  · replace h1 := of_decide_eq_false h1
    refine pwp_exit <| pwp_seq <| kx [(2, (vi m))] [] (zM <| zM <| zZ) ?_
    refine pwp_ret ⟨_, (.tmp (d := (.val (.int .i64 (m)))) rfl .nil), ?_⟩
    rw [hm, show k = l.length by omega, List.take_length]; rfl
end Go.Proofs.Ytleidgohjckmlaa
namespace Go.Proofs.Ytleidgohjckmlaa
open Go.Fid
set_option maxRecDepth 4000
set_option linter.unusedVariables false
set_option linter.unusedSimpArgs false
theorem cb5 : callB Try.prog 5 = true := by kernel_rfl
theorem el49 : elemB Try.prog 49 = some (5, 1) := by kernel_rfl
theorem w_mon1 (w h mx : Int) (px : List Int) (more : List Nat) (hmore : ∀ x ∈ more, x ≤ 255) (hbmore : more.length ≤ 140737488355328) (hbig : ¬ px.length ≤ 300) : Takes Try.prog 5 [(encRst (RRst.mk w h mx px)), (.sl 5 1 (List.map enc_u8 more))] (.val (.bool (true))) := by
  refine fn_intro Try.func5 rfl cb5 rfl ?_
  show PWp _ _ _ _ ⟨[(0, (.d (encRst (RRst.mk w h mx px)))), (1, (vl 5 1 enc_u8 more))], []⟩
  refine pwp_seq <| kx [(2, (.ref 0 0))] [(0, some (bx (encRst (RRst.mk w h mx px))))] (zN (oBx 0) <| zM <| zZ) ?_
  refine pwp_seq <| pwp_seq <| kx [(20, (vb false))] [] (zE (oCl p_known) <| zE oNt <| zZ) ?_
  refine pwp_cond (b := false) (by kernel_rfl) (fun h => by cases h) (fun _ => ?_)
  refine pwp_skip <| pwp_seq <| pwp_seq <| kx [(28, (vb true))] [] (zR (oLa sh24) <| zE (oBk false (oCl (p_few w h mx px)) (by exact decide_eq_false (by omega))) <| zE oNt <| zM <| zK <| zK <| zK <| zE oPt <| zZ) ?_
  refine pwp_cond (b := true) (by kernel_rfl) (fun _ => ?_) (fun h => by cases h)
  refine pwp_seq <| kx [(4, (vb true))] [] (zM <| zZ) ?_
  refine pwp_ret ⟨_, (.tmp (d := (.val (.bool (true)))) rfl .nil), ?_⟩
  rfl
theorem w_mon2 (w h mx : Int) (px : List Int) (more : List Nat) (hmore : ∀ x ∈ more, x ≤ 255) (hbmore : more.length ≤ 140737488355328) (hsm : px.length ≤ 300) (hc : chkC w h mx px ≠ 0) : Takes Try.prog 5 [(encRst (RRst.mk w h mx px)), (.sl 5 1 (List.map enc_u8 more))] (.val (.bool (true))) := by
  refine fn_intro Try.func5 rfl cb5 rfl ?_
  show PWp _ _ _ _ ⟨[(0, (.d (encRst (RRst.mk w h mx px)))), (1, (vl 5 1 enc_u8 more))], []⟩
  refine pwp_seq <| kx [(2, (.ref 0 0))] [(0, some (bx (encRst (RRst.mk w h mx px))))] (zN (oBx 0) <| zM <| zZ) ?_
  refine pwp_seq <| pwp_seq <| kx [(20, (vb false))] [] (zE (oCl p_known) <| zE oNt <| zZ) ?_
  refine pwp_cond (b := false) (by kernel_rfl) (fun h => by cases h) (fun _ => ?_)
  refine pwp_skip <| pwp_seq <| pwp_seq <| kx [(28, (vb true))] [] (zR (oLa sh24) <| zE (oBk true (oCl (p_few w h mx px)) (by exact decide_eq_true (by omega))) <| zE oNt <| zM <| zR (oLa sh24) <| zE (oCl (p_rchk w h mx px (by omega))) <| zE (oBk true oNe (by exact bne_iff_ne.2 hc)) <| zE oPf <| zZ) ?_
  refine pwp_cond (b := true) (by kernel_rfl) (fun _ => ?_) (fun h => by cases h)
  refine pwp_seq <| kx [(4, (vb true))] [] (zM <| zZ) ?_
  refine pwp_ret ⟨_, (.tmp (d := (.val (.bool (true)))) rfl .nil), ?_⟩
  rfl
theorem w_mon3 (w h : Nat) (mx : Int) (px : List Int) (more : List Nat) (hmore : ∀ x ∈ more, x ≤ 255) (hbmore : more.length ≤ 140737488355328) (hsm : px.length ≤ 300) (hv : RstOk w h px) (m1 : 1 ≤ mx) (m2 : mx ≤ 65535) (hp : ∀ x ∈ px, 0 ≤ x ∧ x ≤ mx) (hc : chkC ((w : Nat) : Int) ((h : Nat) : Int) mx px = 0) : Takes Try.prog 5 [(encRst (RRst.mk ((w : Nat) : Int) ((h : Nat) : Int) mx px)), (.sl 5 1 (List.map enc_u8 more))] (.val (.bool (true))) := by
  have hv0 := hv
  have hpl := rst_len hv
  obtain ⟨w1, w2, w3, w4, w5, w6⟩ := hv
  have hp0 := rst_pos hv0
  have hwh : w * h ≤ 64 * 64 := Nat.mul_le_mul w2 w4
  have hin1 := in_low (lo := pyMin px) (hi := pyMax px) w5 (fun x hx => ⟨pyMin_le x hx, le_pyMax x hx⟩)
  have hmn0 : 0 ≤ pyMin px := (hp _ (pyMin_mem hp0)).1
  have hin2 := smV_le (a := pyMin px) (b := pyMax px) hv0 hmn0 (fun x hx => ⟨pyMin_le x hx, le_pyMax x hx⟩)
  let y1 := (bx (encRst (RRst.mk ((w : Nat) : Int) ((h : Nat) : Int) mx px)))
  refine fn_intro Try.func5 rfl cb5 rfl ?_
  show PWp _ _ _ _ ⟨[(0, (.d (encRst (RRst.mk ((w : Nat) : Int) ((h : Nat) : Int) mx px)))), (1, (vl 5 1 enc_u8 more))], []⟩
  refine pwp_seq <| kx [(2, (.ref 0 0))] [(0, some y1)] (zN (oBx 0) <| zM <| zZ) ?_
  refine pwp_seq <| pwp_seq <| kx [(20, (vb false))] [] (zE (oCl p_known) <| zE oNt <| zZ) ?_
  refine pwp_cond (b := false) (by kernel_rfl) (fun h => by cases h) (fun _ => ?_)
  refine pwp_skip <| pwp_seq <| pwp_seq <| kx [(28, (vb false))] [] (zR (oLa sh24) <| zE (oBk true (oCl (p_few ((w : Nat) : Int) ((h : Nat) : Int) mx px)) (by exact decide_eq_true (by omega))) <| zE oNt <| zM <| zR (oLa sh24) <| zE (oCl (p_rchk ((w : Nat) : Int) ((h : Nat) : Int) mx px (by omega))) <| zE (oBk false oNe (by exact bne_eq_false_iff_eq.2 hc)) <| zE oPf <| zZ) ?_
  refine pwp_cond (b := false) (by kernel_rfl) (fun h => by cases h) (fun _ => ?_)
  refine pwp_skip <| pwp_seq <| kx [(5, (.ref 1 0))] [(1, some y1)] (zR (oLa sh24) <| zN (oAl 1 ze24 zo24) <| zT (oSt sh24) <| zZ) ?_
  refine pwp_seq <| kx [] [(1, some [(vin w), (vin h), (vi mx), (.own 2 3 1 px.length)]), (2, some (bm enc_i64 px))] (zE (oFr fo24_3) <| zR (oL1 sh22) <| zN (oCo 2 (p_cloneO px (by omega) hp0)) <| zE (oFr fo24_3) <| zT (oSx sh22) <| zZ) ?_
  refine pwp_seq <| pwp_seq <| kx [(36, (vin px.length)), (37, (vin 0))] [] (zE (oFr fo24_3) <| zR (oL1 sh22) <| zE (oLo el22) <| zM <| zZ) ?_
  refine pwp_block <| pwp_loop (α := Nat × List Int) (fun (i, u) => ⟨[(1, (vl 5 1 enc_u8 more)), (2, (.ref 0 0)), (5, (.ref 1 0)), (36, (vin px.length)), (37, (vin i))], [(0, some y1), (1, some [(vin w), (vin h), (vi mx), (.own 2 3 1 px.length)]), (2, some (bm enc_i64 u))]⟩) (fun (i, u) => i ≤ px.length ∧ u = upM more mx px i) (fun (i, u) => px.length - i) (0, px) wk ⟨Nat.zero_le _, (upM_0 more mx px).symm⟩ ?_
  rintro ⟨i, u⟩ ⟨hi, hu⟩
  have hul : u.length = px.length := by rw [hu, upM_len]
  have hgk := w6.get (by decide) i
  have hmk : more.getD i 0 ≤ 255 := nat_getD hmore i
  refine pwp_seq <| kx [(38, (vb (decide (((i : Nat) : Int) < ((px.length : Nat) : Int)))))] [] (zE oLt <| zZ) ?_
  refine pwp_seq <| pwp_cond rfl (fun h1 => ?_) (fun h1 => ?_)
  · replace h1 := of_decide_eq_true h1
    have hgu : u.getD i 0 = px.getD i 0 := by rw [hu]; exact upM_get (by omega)
    refine pwp_skip <| pwp_seq <| pwp_block <| pwp_seq <| kx [(6, (vin i))] [] (zM <| zM <| zZ) ?_
    refine pwp_seq <| kx [(43, (vb (decide (((i : Nat) : Int) < ((more.length : Nat) : Int)))))] [] (zM <| zM <| zE (oLm el49) <| zE oLt <| zZ) ?_
    refine pwp_cond rfl (fun h2 => ?_) (fun h2 => ?_)
    · replace h2 := of_decide_eq_true h2
      refine kd [] [(2, some (bm enc_i64 (u.set i (min ((u.getD i 0) + (((more.getD i 0) : Nat) : Int)) mx))))] mo (wE (oFr fo24_3) <| wR (oL1 sh22) <| wM <| wE (oFr fo24_3) <| wR (oL1 sh22) <| wM <| wE (oXo el22 i) <| wR (oLp sh3 i (0 : Int)) <| wM <| wM <| wE (oXl el49 i (0 : Nat)) <| wE (oC1 sh5) <| wE (oCv un5 in3 (more.getD i 0)) <| wE (zAd ((u.getD i 0) + (((more.getD i 0) : Nat) : Int))) <| wE (oFr fo24_2) <| wR (oL1 sh3) <| wE (zMn (min ((u.getD i 0) + (((more.getD i 0) : Nat) : Int)) mx) (hr := by first | omega | (dsimp only; omega))) <| wE (oXo el22 i) <| wT (oSp sh3 i (min ((u.getD i 0) + (((more.getD i 0) : Nat) : Int)) mx)) <| wZ) ?_
      refine kx [(37, (vin (i + 1)))] [] (zE (oAd (i + 1)) <| zM <| zZ) ?_
      exact ⟨(i + 1, u.set i (min (u.getD i 0 + ((more.getD i 0 : Nat) : Int)) mx)), wk, ⟨by omega, by rw [hgu, hu]; exact upM_set (by omega) (by omega)⟩, (by first | omega | (dsimp only; omega))⟩
    · replace h2 := of_decide_eq_false h2
      refine pwp_skip <| kx [(37, (vin (i + 1)))] [] (zE (oAd (i + 1)) <| zM <| zZ) ?_
      exact ⟨(i + 1, u), wk, ⟨by omega, by rw [hu]; exact upM_skip (by omega)⟩, (by first | omega | (dsimp only; omega))⟩
  · replace h1 := of_decide_eq_false h1
    have hue : u = (pyUp more mx px) := by rw [hu, show i = px.length by omega]; rfl
    have hup := (up_r2 (more := more) hp).1
    rw [← hue] at hup
    have hq1 := mono_low w5 hup
    have hq2 := mono_smooth hv0 (fun x hx => (hp x hx).1) hup
    have hbl : (bLow w h px).length ≤ 1000000 := (bnd_len (m := 0) (bands_ok hv0)).1
    have hsl := smV_len w h px
    refine pwp_exit <| pwp_seq <| pwp_sim (publishAt (j := 1) (k := 2) (pre := [(vin w), (vin h), (vi mx)]) (post := []) (es := List.map enc_i64 u) rfl (by decide) rfl (pub_cells _ _ (fun _ => rfl)) (map_len _ _ hul) (pub_take _ _ (fun _ => rfl) hul)) ?_
    refine pwp_sim (wk (l := [(1, (vl 5 1 enc_u8 more)), (2, (.ref 0 0)), (5, (.ref 1 0)), (36, (vin px.length)), (37, (vin i)), (38, (vb (decide (((i : Nat) : Int) < ((px.length : Nat) : Int)))))]) (b := [(0, some y1), (1, some (bx (encRst (RRst.mk ((w : Nat) : Int) ((h : Nat) : Int) mx u))))])) ?_
    refine kx [(7, (.ref 3 0)), (8, (vi 0))] [(3, some (bx (encBnd (RBnd.mk ((w : Nat) : Int) ((h : Nat) : Int) mx (bLow w h px) (bRight w h px) (bDown w h px) (bCorner w h px)))))] (zR (oLa sh24) <| zE (oCl (p_splO w h mx px hv0 (by omega) hc)) <| zM <| zE oEx <| zE oEx <| zN (oAl 3 ze44 zo44) <| zT (oSt sh44) <| zM <| zZ) ?_
    refine pwp_seq <| kx [(9, (.ref 4 0)), (10, (vi 0))] [(4, some (bx (encBnd (RBnd.mk ((w : Nat) : Int) ((h : Nat) : Int) mx (bLow w h u) (bRight w h u) (bDown w h u) (bCorner w h u)))))] (zR (oLa sh24) <| zE (oCl (p_splO w h mx u (by rw [hue]; exact up_rst hv0 m2 hp) (by omega) (by rw [hue]; exact up_chk hv0 m1 m2 hp))) <| zM <| zE oEx <| zE oEx <| zN (oAl 4 ze44 zo44) <| zT (oSt sh44) <| zM <| zZ) ?_
    refine pwp_seq <| kx [(11, (.ref 5 0)), (12, (vi 0))] [(5, some (bx (encRst (RRst.mk ((w : Nat) : Int) ((h : Nat) : Int) mx (smV w h px)))))] (zR (oLa sh24) <| zE (oCl (p_smo w h mx px hv0 (by omega) hc)) <| zM <| zE oEx <| zE oEx <| zN (oAl 5 ze24 zo24) <| zT (oSt sh24) <| zM <| zZ) ?_
    refine pwp_seq <| kx [(13, (.ref 6 0)), (14, (vi 0))] [(6, some (bx (encRst (RRst.mk ((w : Nat) : Int) ((h : Nat) : Int) mx (smV w h u)))))] (zR (oLa sh24) <| zE (oCl (p_smo w h mx u (by rw [hue]; exact up_rst hv0 m2 hp) (by omega) (by rw [hue]; exact up_chk hv0 m1 m2 hp))) <| zM <| zE oEx <| zE oEx <| zN (oAl 6 ze24 zo24) <| zT (oSt sh24) <| zM <| zZ) ?_
    refine pwp_seq <| pwp_seq <| kx [(117, (vb false))] [] (zM <| zM <| zE (oAd 0 (hr := by decide)) <| zM <| zE (oAd 0 (hr := by decide)) <| zM <| zE (oAd 0 (hr := by decide)) <| zE (oBk false oNe) <| zM <| zE (oFr fo44_3) <| zR (oL1 sh22) <| zE (oLm el22 (L := (bLow w h px))) <| zE (oFr fo44_3) <| zR (oL1 sh22) <| zE (oLm el22 (L := (bLow w h u))) <| zE (oBk false oNe (by exact bne_eq_false_iff_eq.2 (congrArg (fun z : Nat => (z : Int)) hq1.length))) <| zE oPf <| zM <| zE (oFr fo24_3) <| zR (oL1 sh22) <| zE (oLm el22 (L := (smV w h px))) <| zE (oFr fo24_3) <| zR (oL1 sh22) <| zE (oLm el22) <| zE (oBk false oNe (by exact bne_eq_false_iff_eq.2 (congrArg (fun z : Nat => (z : Int)) (by rw [smV_len, w5])))) <| zE oPf <| zM <| zE (oFr fo24_3) <| zR (oL1 sh22) <| zE (oLm el22 (L := (smV w h u))) <| zE (oFr fo24_3) <| zR (oL1 sh22) <| zE (oLm el22) <| zE (oBk false oNe (by exact bne_eq_false_iff_eq.2 (congrArg (fun z : Nat => (z : Int)) (by rw [smV_len, w5])))) <| zE oPf <| zZ) ?_
    refine pwp_cond (b := false) (by kernel_rfl) (fun h => by cases h) (fun _ => ?_)
    refine pwp_skip <| pwp_seq <| kd [(15, (vi (pyMin px))), (16, (vi (pyMax px)))] [] mo (wE (oFr fo24_3) <| wR (oL1 sh22) <| wE (oCl (p_min px hp0 (by omega))) <| wE (oFr fo24_3) <| wR (oL1 sh22) <| wE (oCl (p_max px hp0 (by omega))) <| wM <| wM <| wZ) ?_
    refine pwp_seq <| pwp_seq <| kx [(126, (vin ((bLow w h px).length))), (127, (vin 0))] [] (zE (oFr fo44_3) <| zR (oL1 sh22) <| zE (oLm el22 (L := (bLow w h px))) <| zM <| zZ) ?_
    refine pwp_block <| pwp_loop (α := Nat) (fun j => ⟨[(7, (.ref 3 0)), (9, (.ref 4 0)), (11, (.ref 5 0)), (13, (.ref 6 0)), (15, (vi (pyMin px))), (16, (vi (pyMax px))), (126, (vin ((bLow w h px).length))), (127, (vin j))], [(3, some (bx (encBnd (RBnd.mk ((w : Nat) : Int) ((h : Nat) : Int) mx (bLow w h px) (bRight w h px) (bDown w h px) (bCorner w h px))))), (4, some (bx (encBnd (RBnd.mk ((w : Nat) : Int) ((h : Nat) : Int) mx (bLow w h u) (bRight w h u) (bDown w h u) (bCorner w h u))))), (5, some (bx (encRst (RRst.mk ((w : Nat) : Int) ((h : Nat) : Int) mx (smV w h px))))), (6, some (bx (encRst (RRst.mk ((w : Nat) : Int) ((h : Nat) : Int) mx (smV w h u)))))]⟩) (fun j => j ≤ (bLow w h px).length) (fun j => (bLow w h px).length - j) 0 wk (Nat.zero_le _) ?_
    rintro j hj
    refine pwp_seq <| kx [(128, (vb (decide (((j : Nat) : Int) < (((bLow w h px).length : Nat) : Int)))))] [] (zE oLt <| zZ) ?_
    refine pwp_seq <| pwp_cond rfl (fun h3 => ?_) (fun h3 => ?_)
    · replace h3 := of_decide_eq_true h3
      have hq1j := hq1.get 0 0 j (by omega)
      have hq1i := hin1 _ (getD_mem (l := (bLow w h px)) (i := j) (by omega))
      have hq1l := hq1.length
      refine pwp_skip <| pwp_seq <| pwp_block <| pwp_seq <| kx [(17, (vin j))] [] (zM <| zM <| zZ) ?_
      refine pwp_seq <| kd [(158, (vb false))] [] mo (wE (oFr fo44_3) <| wR (oL1 sh22) <| wM <| wE (oXl el22 j (0 : Int) (L := (bLow w h px))) <| wE (oC1 sh3) <| wE (oFr fo44_3) <| wR (oL1 sh22) <| wM <| wE (oXl el22 j (0 : Int) (L := (bLow w h u))) <| wE (oC1 sh3) <| wE (oBk false oGt (by exact decide_eq_false (Int.not_lt.2 hq1j))) <| wM <| wE (oFr fo44_3) <| wR (oL1 sh22) <| wM <| wE (oXl el22 j (0 : Int) (L := (bLow w h px))) <| wE (oC1 sh3) <| wM <| wE (oBk false oLt (by exact decide_eq_false (Int.not_lt.2 hq1i.1))) <| wE oPf <| wM <| wE (oFr fo44_3) <| wR (oL1 sh22) <| wM <| wE (oXl el22 j (0 : Int) (L := (bLow w h px))) <| wE (oC1 sh3) <| wM <| wE (oBk false oGt (by exact decide_eq_false (Int.not_lt.2 hq1i.2))) <| wE oPf <| wZ) ?_
      refine pwp_cond (b := false) (by kernel_rfl) (fun h => by cases h) (fun _ => ?_)
      refine pwp_skip <| kx [(127, (vin (j + 1)))] [] (zE (oAd (j + 1)) <| zM <| zZ) ?_
      exact ⟨(j + 1), wk, (by omega), (by omega)⟩
    · replace h3 := of_decide_eq_false h3
      refine pwp_exit <| pwp_seq <| pwp_seq <| kx [(162, (vin ((smV w h px).length))), (163, (vin 0))] [] (zE (oFr fo24_3) <| zR (oL1 sh22) <| zE (oLm el22 (L := (smV w h px))) <| zM <| zZ) ?_
      refine pwp_block <| pwp_loop (α := Nat) (fun j => ⟨[(11, (.ref 5 0)), (13, (.ref 6 0)), (15, (vi (pyMin px))), (16, (vi (pyMax px))), (162, (vin ((smV w h px).length))), (163, (vin j))], [(5, some (bx (encRst (RRst.mk ((w : Nat) : Int) ((h : Nat) : Int) mx (smV w h px))))), (6, some (bx (encRst (RRst.mk ((w : Nat) : Int) ((h : Nat) : Int) mx (smV w h u)))))]⟩) (fun j => j ≤ (smV w h px).length) (fun j => (smV w h px).length - j) 0 wk (Nat.zero_le _) ?_
      rintro j hj
      refine pwp_seq <| kx [(164, (vb (decide (((j : Nat) : Int) < (((smV w h px).length : Nat) : Int)))))] [] (zE oLt <| zZ) ?_
      refine pwp_seq <| pwp_cond rfl (fun h4 => ?_) (fun h4 => ?_)
      · replace h4 := of_decide_eq_true h4
        have hq2j := hq2.get 0 0 j (by omega)
        have hq2i := hin2 _ (getD_mem (l := (smV w h px)) (i := j) (by omega))
        have hq2l := hq2.length
        refine pwp_skip <| pwp_seq <| pwp_block <| pwp_seq <| kx [(18, (vin j))] [] (zM <| zM <| zZ) ?_
        refine pwp_seq <| kd [(194, (vb false))] [] mo (wE (oFr fo24_3) <| wR (oL1 sh22) <| wM <| wE (oXl el22 j (0 : Int) (L := (smV w h px))) <| wE (oC1 sh3) <| wE (oFr fo24_3) <| wR (oL1 sh22) <| wM <| wE (oXl el22 j (0 : Int) (L := (smV w h u))) <| wE (oC1 sh3) <| wE (oBk false oGt (by exact decide_eq_false (Int.not_lt.2 hq2j))) <| wM <| wE (oFr fo24_3) <| wR (oL1 sh22) <| wM <| wE (oXl el22 j (0 : Int) (L := (smV w h px))) <| wE (oC1 sh3) <| wM <| wE (oBk false oLt (by exact decide_eq_false (Int.not_lt.2 hq2i.1))) <| wE oPf <| wM <| wE (oFr fo24_3) <| wR (oL1 sh22) <| wM <| wE (oXl el22 j (0 : Int) (L := (smV w h px))) <| wE (oC1 sh3) <| wM <| wE (oBk false oGt (by exact decide_eq_false (Int.not_lt.2 hq2i.2))) <| wE oPf <| wZ) ?_
        refine pwp_cond (b := false) (by kernel_rfl) (fun h => by cases h) (fun _ => ?_)
        refine pwp_skip <| kx [(163, (vin (j + 1)))] [] (zE (oAd (j + 1)) <| zM <| zZ) ?_
        exact ⟨(j + 1), wk, (by omega), (by omega)⟩
      · replace h4 := of_decide_eq_false h4
        refine pwp_exit <| pwp_seq <| kx [(4, (vb true))] [] (zM <| zZ) ?_
        refine pwp_ret ⟨_, (.tmp (d := (.val (.bool (true)))) rfl .nil), ?_⟩
        rfl
end Go.Proofs.Ytleidgohjckmlaa
