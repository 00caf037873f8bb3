/- Part 28 of a proof: rules, plain facts, and functions walked. -/
import Derived.Test.YtleidgohjckmlaaM21
import Derived.Test.YtleidgohjckmlaaM17
import Derived.Test.YtleidgohjckmlaaM27
set_option linter.unusedVariables false
set_option linter.unusedSimpArgs false
namespace Go.Proofs.Ytleidgohjckmlaa
open Go.Fid
theorem kn_r : RstOk 3 2 [5, 2, 9, 4, 4, 0] := ⟨by decide, by decide, by decide, by decide, rfl, fun x hx => by simp at hx; omega⟩
theorem kn_s : RstOk 3 1 [0, 0, 16] := ⟨by decide, by decide, by decide, by decide, rfl, fun x hx => by simp at hx; omega⟩
def bndLen (b : RBnd) : Prop := b.low.length ≤ 1000000 ∧ b.right.length ≤ 1000000 ∧ b.down.length ≤ 1000000 ∧ b.corner.length ≤ 1000000
theorem bnd_len {w h : Nat} {m : Int} {l r d c : List Int} (hv : BndOk w h l r d c) : bndLen (RBnd.mk ((w : Nat) : Int) ((h : Nat) : Int) m l r d c) := by
  obtain ⟨w1, w2, h1, h2, v1, v2, v3, v4, _⟩ := hv
  have q : ∀ a b : Nat, a ≤ 64 → b ≤ 64 → a * b ≤ 1000000 := fun a b ha hb => Nat.le_trans (Nat.mul_le_mul ha hb) (by decide)
  refine ⟨?_, ?_, ?_, ?_⟩
  · show l.length ≤ 1000000; rw [v1]; exact q _ _ (by omega) (by omega)
  · show r.length ≤ 1000000; rw [v2]; exact q _ _ (by omega) (by omega)
  · show d.length ≤ 1000000; rw [v3]; exact q _ _ (by omega) (by omega)
  · show c.length ≤ 1000000; rw [v4]; exact q _ _ (by omega) (by omega)
end Go.Proofs.Ytleidgohjckmlaa
set_option linter.unusedVariables false
set_option linter.unusedSimpArgs false
namespace Go.Fid
def addU (k : Int) (px : List Int) (i : Nat) : List Int := ((px.take i).map fun a => a + k) ++ px.drop i
theorem addU_len (k : Int) (px : List Int) (i : Nat) : (addU k px i).length = px.length := by simp [addU]; omega
theorem addU_get {k : Int} {px : List Int} {i : Nat} (h : i < px.length) : (addU k px i).getD i 0 = px.getD i 0 := by
  unfold addU
  have hl : ((px.take i).map fun a => a + k).length = i := by simp; omega
  rw [List.getD_eq_getElem?_getD, List.getElem?_append_right (by omega), hl, Nat.sub_self, List.getElem?_drop, Nat.add_zero, List.getD_eq_getElem?_getD]
theorem addU_set {k : Int} {px : List Int} {i : Nat} (h : i < px.length) : (addU k px i).set i (px.getD i 0 + k) = addU k px (i + 1) := by
  unfold addU
  have hl : ((px.take i).map fun a => a + k).length = i := by simp; omega
  rw [take_one h, List.map_append, List.append_assoc]
  have hd : px.drop i = px.getD i 0 :: px.drop (i + 1) := by
    rw [List.drop_eq_getElem_cons h, List.getD_eq_getElem?_getD, List.getElem?_eq_getElem h]; rfl
  rw [hd, List.set_append_right _ _ (by omega), hl, Nat.sub_self]; rfl
theorem addU_end {k : Int} {px : List Int} {i : Nat} (h : px.length ≤ i) : addU k px i = px.map fun a => a + k := by
  unfold addU; rw [List.take_of_length_le h, List.drop_eq_nil_of_le h, List.append_nil]
theorem chk_rstN {w h : Nat} {mx : Int} {px : List Int} (hc : chkC ((w : Nat) : Int) ((h : Nat) : Int) mx px = 0) : RstOk w h px := by
  obtain ⟨a, b, e1, e2, hv, _⟩ := chk_rst hc
  rw [show w = a by omega, show h = b by omega]; exact hv
theorem tu_chk {w h : Nat} {mx : Int} {px : List Int} (hv : RstOk w h px) (m1 : 1 ≤ mx) (m2 : mx ≤ 65535) (hp : ∀ x ∈ px, 0 ≤ x ∧ x ≤ mx) : chkC ((h : Nat) : Int) ((w : Nat) : Int) mx (tuV w h px) = 0 := by
  obtain ⟨w1, w2, h1, h2, hl, _⟩ := hv
  exact rst_chk h1 h2 w1 w2 (by rw [tuV_len, Nat.mul_comm]) m1 m2 (px_ok.2 fun x hx => hp x (tu_mem hl w1 h1 x hx))
end Go.Fid
namespace Go.Proofs.Ytleidgohjckmlaa
open Go.Fid
set_option maxRecDepth 4000
set_option linter.unusedVariables false
set_option linter.unusedSimpArgs false
theorem cb6 : callB Try.prog 6 = true := by kernel_rfl
theorem p_known  : Takes Try.prog 6 [] (.val (.bool (true))) := by
  have hkr := kn_r
  have hks := kn_s
  let y1 := [((5 : Nat) : Int), ((2 : Nat) : Int), ((9 : Nat) : Int), ((4 : Nat) : Int), ((4 : Nat) : Int), ((0 : Nat) : Int)]
  refine fn_intro Try.func6 rfl cb6 rfl ?_
  show PWp _ _ _ _ ⟨[], []⟩
  refine pwp_seq <| kx [] [] (zM <| zZ) ?_
  refine pwp_seq <| kx [(1, (.ref 0 0))] [(0, some (bx (encRst (RRst.mk ((3 : Nat) : Int) ((2 : Nat) : Int) ((9 : Nat) : Int) y1))))] (zE (oBs el22 ze3 zo3) <| zE (oBd pl24 ze24 zo24) <| zN (oAl 0 ze24 zo24) <| zT (oSt sh24) <| zZ) ?_
  refine pwp_seq <| kx [(2, (.ref 1 0)), (3, (vi 0))] [(1, some (bx (encBnd (RBnd.mk ((3 : Nat) : Int) ((2 : Nat) : Int) ((9 : Nat) : Int) (bLow 3 2 y1) (bRight 3 2 y1) (bDown 3 2 y1) (bCorner 3 2 y1)))))] (zR (oLa sh24) <| zE (oCl (p_splO 3 2 ((9 : Nat) : Int) y1 kn_r (by decide +kernel) (by decide +kernel))) <| zM <| zE oEx <| zE oEx <| zN (oAl 1 ze44 zo44) <| zT (oSt sh44) <| zM <| zZ) ?_
  refine pwp_seq <| kx [(4, (.ref 2 0)), (5, (vi 0))] [(2, some (bx (encRst (RRst.mk ((3 : Nat) : Int) ((2 : Nat) : Int) ((9 : Nat) : Int) (pxJ 3 2 (bLow 3 2 y1) (bRight 3 2 y1) (bDown 3 2 y1) (bCorner 3 2 y1))))))] (zR (oLa sh44) <| zE (oCl (p_joV 3 2 ((9 : Nat) : Int) (bLow 3 2 y1) (bRight 3 2 y1) (bDown 3 2 y1) (bCorner 3 2 y1) (by decide +kernel) (by decide +kernel) (by decide +kernel) (by decide +kernel) (by decide +kernel) (bands_ok kn_r) (by decide +kernel))) <| zM <| zE oEx <| zE oEx <| zN (oAl 2 ze24 zo24) <| zT (oSt sh24) <| zM <| zZ) ?_
  refine pwp_seq <| kx [(6, (.ref 3 0)), (7, (vi 0))] [(3, some (bx (encRst (RRst.mk ((3 : Nat) : Int) ((1 : Nat) : Int) ((16 : Nat) : Int) (smV 3 1 [((0 : Nat) : Int), ((0 : Nat) : Int), ((16 : Nat) : Int)])))))] (zE (oBs el22 ze3 zo3) <| zE (oBd pl24 ze24 zo24) <| zE (oCl (p_smo 3 1 ((16 : Nat) : Int) [((0 : Nat) : Int), ((0 : Nat) : Int), ((16 : Nat) : Int)] kn_s (by decide +kernel) (by decide +kernel))) <| zM <| zE oEx <| zE oEx <| zN (oAl 3 ze24 zo24) <| zT (oSt sh24) <| zM <| zZ) ?_
  refine pwp_seq <| kx [(8, (.ref 4 0)), (9, (vi 0))] [(4, some (bx (encR (ofQ (Rat.divInt (pySum y1) ((y1.length : Nat) : Int))))))] (zR (oLa sh24) <| zE (oCl (p_mean 3 2 ((9 : Nat) : Int) y1 kn_r (by decide +kernel) (by decide +kernel))) <| zM <| zE oEx <| zE oEx <| zN (oAl 4 ze34 zo34) <| zT (oSt sh34) <| zM <| zZ) ?_
  refine pwp_seq <| kd [(0, (vb true))] [] mo (wM <| wM <| wE (oAd 0 (hr := by decide)) <| wM <| wE (oAd 0 (hr := by decide)) <| wM <| wE (oAd 0 (hr := by decide)) <| wE (oBk true oEq) <| wM <| wE (oFr fo44_3) <| wR (oL1 sh22) <| wE (oBs el22 ze3 zo3) <| wE (oBk true (oCl (p_eq (bLow 3 2 y1) [((3 : Nat) : Int), ((4 : Nat) : Int)] (by decide +kernel))) (by exact beq_iff_eq.2 (by decide +kernel))) <| wE oPt <| wM <| wE (oFr fo44_4) <| wR (oL1 sh22) <| wE (oBs el22 ze3 zo3) <| wE (oBk true (oCl (p_eq (bRight 3 2 y1) [((1 : Nat) : Int)] (by decide +kernel))) (by exact beq_iff_eq.2 (by decide +kernel))) <| wE oPt <| wM <| wE (oFr fo44_5) <| wR (oL1 sh22) <| wE (oBs el22 ze3 zo3) <| wE (oBk true (oCl (p_eq (bDown 3 2 y1) [-1, ((9 : Nat) : Int)] (by decide +kernel))) (by exact beq_iff_eq.2 (by decide +kernel))) <| wE oPt <| wM <| wE (oFr fo44_6) <| wR (oL1 sh22) <| wE (oBs el22 ze3 zo3) <| wE (oBk true (oCl (p_eq (bCorner 3 2 y1) [((3 : Nat) : Int)] (by decide +kernel))) (by exact beq_iff_eq.2 (by decide +kernel))) <| wE oPt <| wM <| wR (oLa sh24) <| wR (oLa sh24) <| wE (oBk true (oCl (p_same ((3 : Nat) : Int) ((2 : Nat) : Int) ((9 : Nat) : Int) (pxJ 3 2 (bLow 3 2 y1) (bRight 3 2 y1) (bDown 3 2 y1) (bCorner 3 2 y1)) ((3 : Nat) : Int) ((2 : Nat) : Int) ((9 : Nat) : Int) y1 (by decide +kernel))) (by exact (by decide +kernel))) <| wE oPt <| wM <| wE (oFr fo24_3) <| wR (oL1 sh22) <| wE (oBs el22 ze3 zo3) <| wE (oBk true (oCl (p_eq (smV 3 1 [((0 : Nat) : Int), ((0 : Nat) : Int), ((16 : Nat) : Int)]) [((0 : Nat) : Int), ((4 : Nat) : Int), ((12 : Nat) : Int)] (by decide +kernel))) (by exact beq_iff_eq.2 (by decide +kernel))) <| wE oPt <| wM <| wR (oLa sh34) <| wE (oCl (p_rint ((4 : Nat) : Int) (by omega) (by omega))) <| wE (oBk true (oCl (p_samR (Rat.divInt (pySum y1) ((y1.length : Nat) : Int)) (ql_up (mean_ql (by assumption)) (by decide)) ((4 : Int) : Rat) (ql_up (ql_int (z := 4) (n := 3) (lenZ_int (by omega) (by omega)) (by decide)) (by decide)))) (by exact decide_eq_true (by decide +kernel))) <| wE oPt <| wM <| wZ) ?_
  refine pwp_ret ⟨_, (.tmp (d := (.val (.bool (true)))) rfl .nil), ?_⟩
  rfl
end Go.Proofs.Ytleidgohjckmlaa
namespace Go.Proofs.Ytleidgohjckmlaa
open Go.Fid
set_option maxRecDepth 4000
set_option linter.unusedVariables false
set_option linter.unusedSimpArgs false
theorem cb9 : callB Try.prog 9 = true := by kernel_rfl
theorem cb17 : callB Try.prog 17 = true := by kernel_rfl
theorem p_rdo (w h : Nat) (mx : Int) (px : List Int) (hv : RstOk w h px) (hb : px.length ≤ 1000000) (hc : chkC ((w : Nat) : Int) ((h : Nat) : Int) mx px = 0) : Takes Try.prog 9 [(encRst (RRst.mk ((w : Nat) : Int) ((h : Nat) : Int) mx px))] (.tup [(encRst (RRst.mk ((((w + 1) / 2) : Nat) : Int) ((((h + 1) / 2) : Nat) : Int) mx (rdV w h (smV w h px)))), (.val (.int .i64 (0)))]) := by
  have hv0 := hv
  obtain ⟨w1, w2, w3, w4, w5, w6⟩ := hv
  have hwh : w * h ≤ 64 * 64 := Nat.mul_le_mul w2 w4
  have hvl := smV_len w h px
  let y3 := (bx (encRst (RRst.mk ((w : Nat) : Int) ((h : Nat) : Int) mx px)))
  let y2 := (bx (encRst (RRst.mk ((w : Nat) : Int) ((h : Nat) : Int) mx (smV w h px))))
  let y1 := (bx (.agg [(.val (.int .i64 (((((w + 1) / 2) : Nat) : Int)))), (.val (.int .i64 (((((h + 1) / 2) : Nat) : Int)))), (.val (.int .i64 (mx))), (.val (.slice none 0 0))]))
  refine fn_intro Try.func9 rfl cb9 rfl ?_
  show PWp _ _ _ _ ⟨[(0, (.d (encRst (RRst.mk ((w : Nat) : Int) ((h : Nat) : Int) mx px))))], []⟩
  refine pwp_seq <| kx [(1, (.ref 0 0)), (2, (.ref 1 0))] [(0, some y3), (1, some (bx (encRst (RRst.mk 0 0 0 []))))] (zN (oBx 0) <| zN (oAl 1 ze24 zo24) <| zM <| zZ) ?_
  refine pwp_seq <| kx [(4, (.ref 2 0)), (5, (vi 0))] [(2, some y2)] (zR (oLa sh24) <| zE (oCl (p_smo w h mx px hv0 hb hc)) <| zM <| zE oEx <| zE oEx <| zN (oAl 2 ze24 zo24) <| zT (oSt sh24) <| zM <| zZ) ?_
  refine pwp_seq <| pwp_seq <| kx [(15, (vb false))] [] (zM <| zE oNe <| zZ) ?_
  refine pwp_cond (b := false) (by kernel_rfl) (fun h => by cases h) (fun _ => ?_)
  refine pwp_skip <| pwp_seq <| kx [(6, (.ref 3 0))] [(3, some y1)] (zE (oFr fo24_0) <| zR (oL1 sh3) <| zE (oAd (w + 1)) <| zE (oQu ((w + 1) / 2)) <| zE (oFr fo24_1) <| zR (oL1 sh3) <| zE (oAd (h + 1)) <| zE (oQu ((h + 1) / 2)) <| zE (oFr fo24_2) <| zR (oL1 sh3) <| zE (oBd pl24 ze24 zn24) <| zN (oAl 3 ze24 zo24) <| zT (oSt sh24) <| zZ) ?_
  refine pwp_seq <| pwp_seq <| pwp_own 3 3 4 3 1 (cs := y1) (h := ?_)
  refine pwp_sim (wk (l := [(1, (.ref 0 0)), (2, (.ref 1 0)), (4, (.ref 2 0)), (6, (.ref 3 0))]) (b := [(0, some y3), (1, some (bx (encRst (RRst.mk 0 0 0 [])))), (2, some y2), (3, some [(vin ((w + 1) / 2)), (vin ((h + 1) / 2)), (vi mx), (.own 4 3 1 0)]), (4, some (bm enc_i64 []))])) ?_
  refine kx [(7, (vin 0))] [] (zM <| zZ) ?_
  refine pwp_block <| pwp_loop (α := Nat × List Int) (fun (y, out) => ⟨[(1, (.ref 0 0)), (2, (.ref 1 0)), (4, (.ref 2 0)), (6, (.ref 3 0)), (7, (vin (y * 2)))], [(0, some y3), (1, some (bx (encRst (RRst.mk 0 0 0 [])))), (2, some y2), (3, some [(vin ((w + 1) / 2)), (vin ((h + 1) / 2)), (vi mx), (.own 4 3 1 out.length)]), (4, some (bm enc_i64 out))]⟩) (fun (y, out) => y ≤ ((h + 1) / 2) ∧ out = (List.range (y * ((w + 1) / 2) + 0)).map (rdP w ((w + 1) / 2) (smV w h px))) (fun (y, out) => ((h + 1) / 2) - y) (0, []) wk ⟨Nat.zero_le _, by rw [Nat.zero_mul]; rfl⟩ ?_
  rintro ⟨y, out⟩ ⟨hy, ho⟩
  refine pwp_seq <| pwp_seq <| kx [(32, (vb (decide ((((y * 2) : Nat) : Int) < ((h : Nat) : Int)))))] [] (zM <| zE (oFr fo24_1) <| zR (oL1 sh3) <| zE oLt <| zZ) ?_
  refine pwp_cond rfl (fun h1 => ?_) (fun h1 => ?_)
  · replace h1 := of_decide_eq_true h1
    refine pwp_skip <| pwp_seq <| pwp_block <| pwp_seq <| kx [(8, (vin 0))] [] (zM <| zZ) ?_
    refine pwp_block <| pwp_loop (α := Nat × List Int) (fun (x, ou2) => ⟨[(1, (.ref 0 0)), (2, (.ref 1 0)), (4, (.ref 2 0)), (6, (.ref 3 0)), (7, (vin (y * 2))), (8, (vin (x * 2)))], [(0, some y3), (1, some (bx (encRst (RRst.mk 0 0 0 [])))), (2, some y2), (3, some [(vin ((w + 1) / 2)), (vin ((h + 1) / 2)), (vi mx), (.own 4 3 1 ou2.length)]), (4, some (bm enc_i64 ou2))]⟩) (fun (x, ou2) => x ≤ ((w + 1) / 2) ∧ ou2 = (List.range (y * ((w + 1) / 2) + x)).map (rdP w ((w + 1) / 2) (smV w h px))) (fun (x, ou2) => ((w + 1) / 2) - x) (0, out) wk ⟨Nat.zero_le _, ho⟩ ?_
    rintro ⟨x, ou2⟩ ⟨hx, ho2⟩
    have hol : ou2.length ≤ 1000000 := by rw [ho2, List.length_map, List.length_range]; exact lin_le (by omega) (by omega) hy hx
    refine pwp_seq <| pwp_seq <| kx [(38, (vb (decide ((((x * 2) : Nat) : Int) < ((w : Nat) : Int)))))] [] (zM <| zE (oFr fo24_0) <| zR (oL1 sh3) <| zE oLt <| zZ) ?_
    refine pwp_cond rfl (fun h2 => ?_) (fun h2 => ?_)
    · replace h2 := of_decide_eq_true h2
      have hlt := lin_lt (w := w) (h := h) (x := x * 2) (y := y * 2) (by omega) (by omega)
      refine pwp_skip <| pwp_seq <| pwp_block <| kd [] [(3, some [(vin ((w + 1) / 2)), (vin ((h + 1) / 2)), (vi mx), (.own 5 3 1 ((ou2 ++ [((smV w h px).getD (((y * 2) * w) + (x * 2)) 0)]).length))]), (5, some (bm enc_i64 (ou2 ++ [((smV w h px).getD (((y * 2) * w) + (x * 2)) 0)]))), (4, none)] mo (wE (oFr fo24_3) <| wR (oL1 sh22) <| wE (oFr fo24_3) <| wR (oL1 sh22) <| wM <| wE (oFr fo24_0) <| wR (oL1 sh3) <| wE (oMl ((y * 2) * w)) <| wM <| wE (oAd (((y * 2) * w) + (x * 2))) <| wE (oXl el22 (((y * 2) * w) + (x * 2)) (0 : Int) (L := (smV w h px)) (hj := by first | omega | (rw [hvl]; exact hlt)) (h1 := by first | omega | (rw [hvl]; exact hlt))) <| wE (oC1 sh3) <| wE (oBs el22 ze3 zo3) <| wA (k := 4) 5 enc_i64 ou2 [((smV w h px).getD (((y * 2) * w) + (x * 2)) 0)] rfl el22 ze3 by3 <| wE (oFr fo24_3) <| wT (oSx sh22) <| wZ) ?_
      refine pwp_sim (wk (l := [(1, (.ref 0 0)), (2, (.ref 1 0)), (4, (.ref 2 0)), (6, (.ref 3 0)), (7, (vin (y * 2))), (8, (vin (x * 2)))]) (b := [(0, some y3), (1, some (bx (encRst (RRst.mk 0 0 0 [])))), (2, some y2), (3, some [(vin ((w + 1) / 2)), (vin ((h + 1) / 2)), (vi mx), (.own 5 3 1 ((ou2 ++ [((smV w h px).getD (((y * 2) * w) + (x * 2)) 0)]).length))]), (5, some (bm enc_i64 (ou2 ++ [((smV w h px).getD (((y * 2) * w) + (x * 2)) 0)])))])) ?_
      refine pwp_sim (sim_ren2 (S' := [(1, (.ref 0 0)), (2, (.ref 1 0)), (4, (.ref 2 0)), (6, (.ref 3 0)), (7, (vin (y * 2))), (8, (vin (x * 2)))]) (B' := [(0, some y3), (1, some (bx (encRst (RRst.mk 0 0 0 [])))), (2, some y2), (3, some [(vin ((w + 1) / 2)), (vin ((h + 1) / 2)), (vi mx), (.own 4 3 1 ((ou2 ++ [((smV w h px).getD (((y * 2) * w) + (x * 2)) 0)]).length))]), (4, some (bm enc_i64 (ou2 ++ [((smV w h px).getD (((y * 2) * w) + (x * 2)) 0)])))]) 4 5 3) ?_
      refine kx [(8, (vin ((x + 1) * 2)))] [] (zM <| zE (oAd ((x + 1) * 2)) <| zM <| zZ) ?_
      exact ⟨(x + 1, ou2 ++ [(smV w h px).getD (y * 2 * w + x * 2) 0]), wk, ⟨by omega, rd_step ho2 (by omega)⟩, (by first | omega | (dsimp only; omega))⟩
    · replace h2 := of_decide_eq_false h2
      refine pwp_exit <| kx [(7, (vin ((y + 1) * 2)))] [] (zM <| zE (oAd ((y + 1) * 2)) <| zM <| zZ) ?_
      exact ⟨(y + 1, ou2), wk, ⟨by omega, rd_row ho2 (by omega)⟩, (by first | omega | (dsimp only; omega))⟩
  · replace h1 := of_decide_eq_false h1
    refine pwp_exit <| pwp_seq <| pwp_sim (publishAt (j := 3) (k := 4) (pre := [(vin ((w + 1) / 2)), (vin ((h + 1) / 2)), (vi mx)]) (post := []) (es := List.map enc_i64 out) rfl (by decide) rfl (pub_cells _ _ (fun _ => rfl)) (map_len _ _ rfl) (pub_take _ _ (fun _ => rfl) rfl)) ?_
    refine pwp_sim (wk (l := [(1, (.ref 0 0)), (2, (.ref 1 0)), (4, (.ref 2 0)), (6, (.ref 3 0)), (7, (vin (y * 2))), (32, (vb (decide ((((y * 2) : Nat) : Int) < ((h : Nat) : Int)))))]) (b := [(0, some y3), (1, some (bx (encRst (RRst.mk 0 0 0 [])))), (2, some y2), (3, some (bx (encRst (RRst.mk ((((w + 1) / 2) : Nat) : Int) ((((h + 1) / 2) : Nat) : Int) mx out))))])) ?_
    refine kx [(3, (vin 0))] [(1, some (bx (encRst (RRst.mk ((((w + 1) / 2) : Nat) : Int) ((((h + 1) / 2) : Nat) : Int) mx out))))] (zR (oLa sh24) <| zT (oSt sh24) <| zM <| zZ) ?_
    refine pwp_ret ⟨_, (res_a (cs := (bx (encRst (RRst.mk ((((w + 1) / 2) : Nat) : Int) ((((h + 1) / 2) : Nat) : Int) mx out)))) (d := (encRst (RRst.mk ((((w + 1) / 2) : Nat) : Int) ((((h + 1) / 2) : Nat) : Int) mx out))) rfl rfl sh24 rfl rfl (.tmp (d := (.val (.int .i64 (0)))) rfl .nil)), ?_⟩
    rw [ho, rd_end (h := h) (by omega)]; rfl
theorem p_ltu (w h : Nat) (mx : Int) (px : List Int) (hv : RstOk w h px) : Takes Try.prog 17 [(encRst (RRst.mk ((w : Nat) : Int) ((h : Nat) : Int) mx px))] (encRst (RRst.mk ((h : Nat) : Int) ((w : Nat) : Int) mx (tuV w h px))) := by
  have hv0 := hv
  obtain ⟨w1, w2, w3, w4, w5, w6⟩ := hv
  have hwh : w * h ≤ 64 * 64 := Nat.mul_le_mul w2 w4
  let y1 := (bx (encRst (RRst.mk ((w : Nat) : Int) ((h : Nat) : Int) mx px)))
  refine fn_intro Try.func17 rfl cb17 rfl ?_
  show PWp _ _ _ _ ⟨[(0, (.d (encRst (RRst.mk ((w : Nat) : Int) ((h : Nat) : Int) mx px))))], []⟩
  refine pwp_seq <| kx [(1, (.ref 0 0)), (2, (.ref 1 0))] [(0, some y1), (1, some (bx (encRst (RRst.mk 0 0 0 []))))] (zN (oBx 0) <| zN (oAl 1 ze24 zo24) <| zZ) ?_
  refine pwp_seq <| kx [(3, (.ref 2 0))] [(2, some (bx (.agg [(.val (.int .i64 (((h : Nat) : Int)))), (.val (.int .i64 (((w : Nat) : Int)))), (.val (.int .i64 (mx))), (.val (.slice none 0 0))])))] (zE (oFr fo24_1) <| zR (oL1 sh3) <| zE (oFr fo24_0) <| zR (oL1 sh3) <| zE (oFr fo24_2) <| zR (oL1 sh3) <| zE (oBd pl24 ze24 zn24) <| zN (oAl 2 ze24 zo24) <| zT (oSt sh24) <| zZ) ?_
  refine pwp_seq <| pwp_seq <| pwp_own 2 3 3 3 1 (cs := (bx (.agg [(.val (.int .i64 (((h : Nat) : Int)))), (.val (.int .i64 (((w : Nat) : Int)))), (.val (.int .i64 (mx))), (.val (.slice none 0 0))]))) (h := ?_)
  refine pwp_sim (wk (l := [(1, (.ref 0 0)), (2, (.ref 1 0)), (3, (.ref 2 0))]) (b := [(0, some y1), (1, some (bx (encRst (RRst.mk 0 0 0 [])))), (2, some [(vin h), (vin w), (vi mx), (.own 3 3 1 0)]), (3, some (bm enc_i64 []))])) ?_
  refine kx [(14, (vin w)), (15, (vin 0))] [] (zE (oFr fo24_0) <| zR (oL1 sh3) <| zM <| zZ) ?_
  refine pwp_block <| pwp_loop (α := Nat × List Int) (fun (x, out) => ⟨[(1, (.ref 0 0)), (2, (.ref 1 0)), (3, (.ref 2 0)), (14, (vin w)), (15, (vin x))], [(0, some y1), (1, some (bx (encRst (RRst.mk 0 0 0 [])))), (2, some [(vin h), (vin w), (vi mx), (.own 3 3 1 out.length)]), (3, some (bm enc_i64 out))]⟩) (fun (x, out) => x ≤ w ∧ out = (List.range (x * h + 0)).map (tuP w h px)) (fun (x, out) => w - x) (0, []) wk ⟨Nat.zero_le _, by rw [Nat.zero_mul]; rfl⟩ ?_
  rintro ⟨x, out⟩ ⟨hx, ho⟩
  refine pwp_seq <| kx [(16, (vb (decide (((x : Nat) : Int) < ((w : Nat) : Int)))))] [] (zE oLt <| zZ) ?_
  refine pwp_seq <| pwp_cond rfl (fun h1 => ?_) (fun h1 => ?_)
  · replace h1 := of_decide_eq_true h1
    refine pwp_skip <| pwp_seq <| pwp_block <| pwp_seq <| kx [(4, (vin x))] [] (zM <| zM <| zZ) ?_
    refine pwp_seq <| kx [(19, (vin h)), (20, (vin 0))] [] (zE (oFr fo24_1) <| zR (oL1 sh3) <| zM <| zZ) ?_
    refine pwp_block <| pwp_loop (α := Nat × List Int) (fun (y, ou2) => ⟨[(1, (.ref 0 0)), (2, (.ref 1 0)), (3, (.ref 2 0)), (4, (vin x)), (14, (vin w)), (15, (vin x)), (19, (vin h)), (20, (vin y))], [(0, some y1), (1, some (bx (encRst (RRst.mk 0 0 0 [])))), (2, some [(vin h), (vin w), (vi mx), (.own 3 3 1 ou2.length)]), (3, some (bm enc_i64 ou2))]⟩) (fun (y, ou2) => y ≤ h ∧ ou2 = (List.range (x * h + y)).map (tuP w h px)) (fun (y, ou2) => h - y) (0, out) wk ⟨Nat.zero_le _, ho⟩ ?_
    rintro ⟨y, ou2⟩ ⟨hy, ho2⟩
    have hol : ou2.length ≤ 1000000 := by rw [ho2, List.length_map, List.length_range]; exact lin_le w4 w2 hx hy
    refine pwp_seq <| kx [(21, (vb (decide (((y : Nat) : Int) < ((h : Nat) : Int)))))] [] (zE oLt <| zZ) ?_
    refine pwp_seq <| pwp_cond rfl (fun h2 => ?_) (fun h2 => ?_)
    · replace h2 := of_decide_eq_true h2
      have hlt := lin_lt (w := w) (h := h) (x := x) (y := y) (by omega) (by omega)
      refine pwp_skip <| pwp_seq <| pwp_block <| pwp_seq <| kx [(5, (vin y))] [] (zM <| zM <| zZ) ?_
      refine kd [] [(2, some [(vin h), (vin w), (vi mx), (.own 4 3 1 ((ou2 ++ [(px.getD ((y * w) + x) 0)]).length))]), (4, some (bm enc_i64 (ou2 ++ [(px.getD ((y * w) + x) 0)]))), (3, none)] mo (wE (oFr fo24_3) <| wR (oL1 sh22) <| wE (oFr fo24_3) <| wR (oL1 sh22) <| wM <| wE (oFr fo24_0) <| wR (oL1 sh3) <| wE (oMl (y * w)) <| wM <| wE (oAd ((y * w) + x)) <| wE (oXl el22 ((y * w) + x) (0 : Int) (hj := by first | omega | (rw [w5]; exact hlt)) (h1 := by first | omega | (rw [w5]; exact hlt))) <| wE (oC1 sh3) <| wE (oBs el22 ze3 zo3) <| wA (k := 3) 4 enc_i64 ou2 [(px.getD ((y * w) + x) 0)] rfl el22 ze3 by3 <| wE (oFr fo24_3) <| wT (oSx sh22) <| wZ) ?_
      refine pwp_sim (wk (l := [(1, (.ref 0 0)), (2, (.ref 1 0)), (3, (.ref 2 0)), (4, (vin x)), (14, (vin w)), (15, (vin x)), (19, (vin h)), (20, (vin y))]) (b := [(0, some y1), (1, some (bx (encRst (RRst.mk 0 0 0 [])))), (2, some [(vin h), (vin w), (vi mx), (.own 4 3 1 ((ou2 ++ [(px.getD ((y * w) + x) 0)]).length))]), (4, some (bm enc_i64 (ou2 ++ [(px.getD ((y * w) + x) 0)])))])) ?_
      refine pwp_sim (sim_ren2 (S' := [(1, (.ref 0 0)), (2, (.ref 1 0)), (3, (.ref 2 0)), (4, (vin x)), (14, (vin w)), (15, (vin x)), (19, (vin h)), (20, (vin y))]) (B' := [(0, some y1), (1, some (bx (encRst (RRst.mk 0 0 0 [])))), (2, some [(vin h), (vin w), (vi mx), (.own 3 3 1 ((ou2 ++ [(px.getD ((y * w) + x) 0)]).length))]), (3, some (bm enc_i64 (ou2 ++ [(px.getD ((y * w) + x) 0)])))]) 3 4 2) ?_
      refine kx [(20, (vin (y + 1)))] [] (zE (oAd (y + 1)) <| zM <| zZ) ?_
      exact ⟨(y + 1, ou2 ++ [px.getD (y * w + x) 0]), wk, ⟨by omega, tu_step ho2 (by omega)⟩, (by first | omega | (dsimp only; omega))⟩
    · replace h2 := of_decide_eq_false h2
      refine pwp_exit <| kx [(15, (vin (x + 1)))] [] (zE (oAd (x + 1)) <| zM <| zZ) ?_
      exact ⟨(x + 1, ou2), wk, ⟨by omega, tu_row ho2 (by omega)⟩, (by first | omega | (dsimp only; omega))⟩
  · replace h1 := of_decide_eq_false h1
    refine pwp_exit <| pwp_seq <| pwp_sim (publishAt (j := 2) (k := 3) (pre := [(vin h), (vin w), (vi mx)]) (post := []) (es := List.map enc_i64 out) rfl (by decide) rfl (pub_cells _ _ (fun _ => rfl)) (map_len _ _ rfl) (pub_take _ _ (fun _ => rfl) rfl)) ?_
    refine pwp_sim (wk (l := [(1, (.ref 0 0)), (2, (.ref 1 0)), (3, (.ref 2 0)), (14, (vin w)), (15, (vin x)), (16, (vb (decide (((x : Nat) : Int) < ((w : Nat) : Int)))))]) (b := [(0, some y1), (1, some (bx (encRst (RRst.mk 0 0 0 [])))), (2, some (bx (encRst (RRst.mk ((h : Nat) : Int) ((w : Nat) : Int) mx out))))])) ?_
    refine kx [] [(1, some (bx (encRst (RRst.mk ((h : Nat) : Int) ((w : Nat) : Int) mx out))))] (zR (oLa sh24) <| zT (oSt sh24) <| zZ) ?_
    refine pwp_ret ⟨_, (res_a (cs := (bx (encRst (RRst.mk ((h : Nat) : Int) ((w : Nat) : Int) mx out)))) (d := (encRst (RRst.mk ((h : Nat) : Int) ((w : Nat) : Int) mx out))) rfl rfl sh24 rfl rfl .nil), ?_⟩
    rw [ho, tu_end (w := w) (by omega)]; rfl
end Go.Proofs.Ytleidgohjckmlaa
namespace Go.Proofs.Ytleidgohjckmlaa
open Go.Fid
set_option maxRecDepth 4000
set_option linter.unusedVariables false
set_option linter.unusedSimpArgs false
theorem cb18 : callB Try.prog 18 = true := by kernel_rfl
theorem cb20 : callB Try.prog 20 = true := by kernel_rfl
theorem sh5 : shapeB Try.prog 5 = some (false, 1) := by kernel_rfl
theorem un5 : (Try.prog.underlying 5).isSome = true := by kernel_rfl
theorem p_plus (l : List Int) (q : Nat) (hq : q ≤ 255) (hl : Bd 1099511627776 l) (hb : l.length ≤ 1000000) : Takes Try.prog 20 [(.sl 3 1 (List.map enc_i64 l)), (.cptr 1000000 (Dat.cells (.val (.int .u8 (((q : Nat) : Int))))) 0)] (.sl 3 1 (List.map enc_i64 (l.map (fun a => a + ((q : Nat) : Int))))) := by
  refine fn_intro Try.func20 rfl cb20 rfl ?_
  show PWp _ _ _ _ ⟨[(0, (vl 3 1 enc_i64 l)), (1, (.d (.cptr 1000000 (Dat.cells (.val (.int .u8 (((q : Nat) : Int))))) 0)))], []⟩
  refine pwp_seq <| kx [] [] (zE (oNl 3 1) <| zZ) ?_
  refine pwp_seq <| kx [(4, (.own 0 3 1 0))] [(0, some (bm enc_i64 []))] (zO 0 3 1 <| zZ) ?_
  refine pwp_seq <| pwp_seq <| kx [(7, (vl 3 1 enc_i64 l)), (8, (vin l.length)), (9, (vin 0))] [] (zM <| zE (oLm el22) <| zM <| zZ) ?_
  refine pwp_block <| pwp_loop (α := Nat × List Int) (fun (k, out) => ⟨[(1, (.d (.cptr 1000000 (Dat.cells (.val (.int .u8 (((q : Nat) : Int))))) 0))), (4, (.own 0 3 1 out.length)), (7, (vl 3 1 enc_i64 l)), (8, (vin l.length)), (9, (vin k))], [(0, some (bm enc_i64 out))]⟩) (fun (k, out) => k ≤ l.length ∧ out = (l.take k).map (fun a => a + ((q : Nat) : Int))) (fun (k, out) => l.length - k) (0, []) wk ⟨Nat.zero_le _, rfl⟩ ?_
  rintro ⟨k, out⟩ ⟨hk, ho⟩
  have hol := map_lenle _ ho hb
  have hgk := hl.get (by decide) k
  refine pwp_seq <| kx [(10, (vb (decide (((k : Nat) : Int) < ((l.length : Nat) : Int)))))] [] (zE oLt <| zZ) ?_
  refine pwp_seq <| pwp_cond rfl (fun h1 => ?_) (fun h1 => ?_)
  · replace h1 := of_decide_eq_true h1
    refine pwp_skip <| pwp_seq <| pwp_block <| pwp_seq <| kx [(6, (vi (l.getD k 0)))] [] (zE (oXl el22 k (0 : Int)) <| zE (oC1 sh3) <| zM <| zZ) ?_
    refine kf [(4, (.own 0 3 1 ((out ++ [((l.getD k 0) + ((q : Nat) : Int))]).length)))] [(0, some (bm enc_i64 (out ++ [((l.getD k 0) + ((q : Nat) : Int))])))] (zM <| zM <| zE (oC1 sh5) <| zE (oCv un5 in3 q) <| zE (zAd ((l.getD k 0) + ((q : Nat) : Int))) <| zE (oBs el22 ze3 zo3) <| zA enc_i64 out [((l.getD k 0) + ((q : Nat) : Int))] rfl el22 ze3 by3 <| zM <| zF) ?_
    refine kx [(9, (vin (k + 1)))] [] (zE (oAd (k + 1)) <| zM <| zZ) ?_
    exact ⟨(k + 1, out ++ [(l.getD k 0 + ((q : Nat) : Int))]), wk, ⟨by omega, map_step (fun a => a + ((q : Nat) : Int)) 0 ho (by omega)⟩, (by first | omega | (dsimp only; omega))⟩
  · replace h1 := of_decide_eq_false h1
    refine pwp_exit <| pwp_seq <| kx [(3, (.own 0 3 1 out.length))] [] (zM <| zM <| zZ) ?_
    refine pwp_sim (publish (t := 3) (k := 0) (es := List.map enc_i64 out) rfl rfl (pub_cells _ _ (fun _ => rfl)) (map_len _ _ rfl) (pub_take _ _ (fun _ => rfl) rfl)) ?_
    refine pwp_ret ⟨_, (.tmp (d := (.sl 3 1 (List.map enc_i64 out))) rfl .nil), ?_⟩
    rw [map_end _ ho (by omega)]; rfl
theorem p_cloneO (l : List Int) (hb : l.length ≤ 1000000) (h0 : 0 < l.length) : TakesO Try.prog 18 [(.sl 3 1 (List.map enc_i64 l))] 3 1 l.length (List.map enc_i64 l) := by
  refine fn_introO Try.func18 rfl cb18 rfl h0 ?_
  show PWp _ _ _ _ ⟨[(0, (vl 3 1 enc_i64 l))], []⟩
  refine pwp_seq <| kx [] [] (zE (oNl 3 1) <| zZ) ?_
  refine pwp_seq <| pwp_seq <| pwp_nilq rfl rfl rfl rfl rfl rfl el22 rfl rfl rfl (fun nb hnb => ?_)
  refine pwp_cond (b := nb) rfl (fun h1 => ?_) (fun h1 => ?_)
  · have q := congrArg List.length (hnb h1); simp only [List.length_map, List.length_nil] at q; omega
  · refine pwp_skip <| pwp_seq <| kf [(2, (.own 0 3 1 (([] ++ l).length)))] [(0, some (bm enc_i64 ([] ++ l)))] (zN (oBo 0 el22 ze3 zo3) <| zM <| zA enc_i64 [] l rfl el22 ze3 by3 <| zM <| zF) ?_
    refine pwp_ret ⟨2, 0, rfl, rfl, (bm enc_i64 ([] ++ l)), rfl, ?_⟩
    exact own_prefix _ (j := l.length) (by simp)
end Go.Proofs.Ytleidgohjckmlaa
