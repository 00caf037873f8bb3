/- Part 12 of a proof: rules, plain facts, and functions walked. -/
import Derived.Test.YtadkkhdnccljcaaGreatM11
namespace Go.Proofs.YtadkkhdnccljcaaGreat
open Go.Fid
set_option maxRecDepth 4000
set_option linter.unusedVariables false
set_option linter.unusedSimpArgs false
theorem cb36 : callB Tryz.prog 36 = true := by kernel_rfl
theorem cb39 : callB Tryz.prog 39 = true := by kernel_rfl
theorem cb42 : callB Tryz.prog 42 = true := by kernel_rfl
theorem cb43 : callB Tryz.prog 43 = true := by kernel_rfl
theorem cb95 : callB Tryz.prog 95 = true := by kernel_rfl
theorem el76 : elemB Tryz.prog 76 = some (82, 1) := by kernel_rfl
theorem el82 : elemB Tryz.prog 82 = some (67, 4) := by kernel_rfl
theorem sh82 : shapeB Tryz.prog 82 = some (false, 1) := by kernel_rfl
theorem g_short8 (l : List RRat) (hl : RowOk 140737488355328 l) : Takes Tryz.prog 95 [(.sl 67 4 (List.map encR l)), (.val (.int .i64 (((6 : Nat) : Int)))), (.val (.int .i64 (((8 : Nat) : Int))))] (.val (.bool ((shortRow l)))) := by
  have hb := hl.2
  let y1 := (RRat.mk (RInt.mk false []) (RInt.mk false []))
  refine fn_intro Tryz.func95 rfl cb95 rfl ?_
  show PWp _ _ _ _ ⟨[(0, (vl 67 4 encR l)), (1, (vin 6)), (2, (vin 8))], []⟩
  refine pwp_seq <| kx [] [] (zM <| zZ) ?_
  refine pwp_seq <| pwp_seq <| kx [(11, (vb (decide (((6 : Nat) : Int) < ((l.length : Nat) : Int)))))] [] (zM <| zE (oLm el82) <| zM <| zE oGt <| zZ) ?_
  refine pwp_cond rfl (fun h1 => ?_) (fun h1 => ?_)
  · replace h1 := of_decide_eq_true h1
    refine pwp_seq <| kx [(6, (vb false))] [] (zM <| zZ) ?_
    refine pwp_ret ⟨_, (.tmp (d := (.val (.bool (false)))) rfl .nil), ?_⟩
    rw [shortRow_long (l := l) (by omega)]; rfl
  · replace h1 := of_decide_eq_false h1
    refine pwp_skip <| pwp_seq <| pwp_seq <| kx [(7, (vin 0))] [] (zM <| zZ) ?_
    refine pwp_block <| pwp_loop (α := Nat) (fun i => ⟨[(0, (vl 67 4 encR l)), (2, (vin 8)), (7, (vin i))], []⟩) (fun i => i ≤ l.length ∧ (l.take i).all shortX = true) (fun i => l.length - i) 0 wk ⟨Nat.zero_le _, by simp⟩ ?_
    rintro i ⟨hi, hal⟩
    refine pwp_seq <| pwp_seq <| kx [(15, (vb (decide (((i : Nat) : Int) < ((l.length : Nat) : Int)))))] [] (zM <| zM <| zE (oLm el82) <| zE oLt <| zZ) ?_
    refine pwp_cond rfl (fun h2 => ?_) (fun h2 => ?_)
    · replace h2 := of_decide_eq_true h2
      refine pwp_skip <| pwp_seq <| pwp_block <| pwp_seq <| kx [(36, (vb (decide (((8 : Nat) : Int) < (((digR (l.getD i y1)) : Nat) : Int)) && true)))] [] ?_ ?_
      · refine zM <| zM <| zE (oXl el82 i y1) <| zE (oCa sh67) <| zE (oCl (g_digits (l.getD i y1) (toQ (l.getD i y1)) (qok_at hl.1 (show i < l.length by omega)))) <| zM <| zE oGt <| zE (oV (vb (decide (((8 : Nat) : Int) < (((digR (l.getD i y1)) : Nat) : Int)))) (mv_ok (by kernel_rfl))) <| ?_
        rcases hb3 : (decide (((8 : Nat) : Int) < (((digR (l.getD i (RRat.mk (RInt.mk false []) (RInt.mk false [])))) : Nat) : Int))) with _ | _
        · replace hb3 := of_decide_eq_false hb3
          exact zM <| zE (oBk false oLe) <| zM <| zK <| zK <| zK <| zK <| zK <| zK <| zE oPf <| zE oPf <| zZ
        · replace hb3 := of_decide_eq_true hb3
          exact zK <| zK <| zK <| zK <| zK <| zK <| zK <| zK <| zK <| zK <| zE oPt <| zZ
      refine pwp_cond rfl (fun h4 => ?_) (fun h4 => ?_)
      · refine pwp_seq <| kx [(6, (vb false))] [] (zM <| zZ) ?_
        refine pwp_ret ⟨_, (.tmp (d := (.val (.bool (false)))) rfl .nil), ?_⟩
        rw [shortRow_no (all_not (f := shortX) (l := l) (i := i) (d := (RRat.mk (RInt.mk false []) (RInt.mk false []))) (by omega) (by have hx := h4; simp only [Bool.and_true, decide_eq_true_eq] at hx; exact shortX_no (Int.ofNat_lt.1 hx)))]; rfl
      · refine pwp_skip <| kx [(7, (vin (i + 1)))] [] (zM <| zE (oAd (i + 1)) <| zM <| zZ) ?_
        exact ⟨(i + 1), wk, ⟨by omega, all_take (d := (RRat.mk (RInt.mk false []) (RInt.mk false []))) (by omega) hal (by have hx := h4; simp only [Bool.and_true, decide_eq_false_iff_not] at hx; exact shortX_yes (fun hy => hx (Int.ofNat_lt.2 hy)))⟩, (by first | omega | (dsimp only; omega))⟩
    · replace h2 := of_decide_eq_false h2
      have hie : i = l.length := by omega
      rw [hie, List.take_length] at hal
      refine pwp_exit <| pwp_seq <| kx [(6, (vb true))] [] (zM <| zZ) ?_
      refine pwp_ret ⟨_, (.tmp (d := (.val (.bool (true)))) rfl .nil), ?_⟩
      rw [shortRow_yes (by omega) hal]; rfl
theorem g_shortM8 (l : List (List RRat)) (hm : MatOk 140737488355328 l) : Takes Tryz.prog 36 [(.sl 82 1 (List.map enc_sl_82 l)), (.val (.int .i64 (((6 : Nat) : Int)))), (.val (.int .i64 (((8 : Nat) : Int))))] (.val (.bool ((shortMat l)))) := by
  have hb := hm.2
  refine fn_intro Tryz.func36 rfl cb36 rfl ?_
  show PWp _ _ _ _ ⟨[(0, (vl 82 1 enc_sl_82 l)), (1, (vin 6)), (2, (vin 8))], []⟩
  refine pwp_seq <| kx [] [] (zM <| zZ) ?_
  refine pwp_seq <| pwp_seq <| kx [(11, (vb (decide (((6 : Nat) : Int) < ((l.length : Nat) : Int)))))] [] (zM <| zE (oLm el76) <| zM <| zE oGt <| zZ) ?_
  refine pwp_cond rfl (fun h1 => ?_) (fun h1 => ?_)
  · replace h1 := of_decide_eq_true h1
    refine pwp_seq <| kx [(6, (vb false))] [] (zM <| zZ) ?_
    refine pwp_ret ⟨_, (.tmp (d := (.val (.bool (false)))) rfl .nil), ?_⟩
    rw [shortMat_long (l := l) (by omega)]; rfl
  · replace h1 := of_decide_eq_false h1
    refine pwp_skip <| pwp_seq <| pwp_seq <| kx [(7, (vin 0))] [] (zM <| zZ) ?_
    refine pwp_block <| pwp_loop (α := Nat) (fun i => ⟨[(0, (vl 82 1 enc_sl_82 l)), (1, (vin 6)), (2, (vin 8)), (7, (vin i))], []⟩) (fun i => i ≤ l.length ∧ (l.take i).all shortRow = true) (fun i => l.length - i) 0 wk ⟨Nat.zero_le _, by simp⟩ ?_
    rintro i ⟨hi, hal⟩
    refine pwp_seq <| pwp_seq <| kx [(15, (vb (decide (((i : Nat) : Int) < ((l.length : Nat) : Int)))))] [] (zM <| zM <| zE (oLm el76) <| zE oLt <| zZ) ?_
    refine pwp_cond rfl (fun h2 => ?_) (fun h2 => ?_)
    · replace h2 := of_decide_eq_true h2
      refine pwp_skip <| pwp_seq <| pwp_block <| pwp_seq <| kx [(25, (vb (!(shortRow (l.getD i [])))))] [] (zM <| zM <| zE (oXl el76 i ([] : List (RRat))) <| zE (oC1 sh82) <| zM <| zM <| zE (oCl (g_short8 (l.getD i []) (row_get (d := []) hm (show i < l.length by omega)))) <| zE oNt <| zZ) ?_
      refine pwp_cond (b := !(shortRow (l.getD i []))) rfl (fun h3 => ?_) (fun h3 => ?_)
      · refine pwp_seq <| kx [(6, (vb false))] [] (zM <| zZ) ?_
        refine pwp_ret ⟨_, (.tmp (d := (.val (.bool (false)))) rfl .nil), ?_⟩
        rw [shortMat_no (all_not (f := shortRow) (l := l) (i := i) (d := []) (by omega) (by simpa using h3))]; rfl
      · refine pwp_skip <| kx [(7, (vin (i + 1)))] [] (zM <| zE (oAd (i + 1)) <| zM <| zZ) ?_
        exact ⟨(i + 1), wk, ⟨by omega, all_take (d := []) (by omega) hal (by simpa using h3)⟩, (by first | omega | (dsimp only; omega))⟩
    · replace h2 := of_decide_eq_false h2
      have hie : i = l.length := by omega
      rw [hie, List.take_length] at hal
      refine pwp_exit <| pwp_seq <| kx [(6, (vb true))] [] (zM <| zZ) ?_
      refine pwp_ret ⟨_, (.tmp (d := (.val (.bool (true)))) rfl .nil), ?_⟩
      rw [shortMat_yes (by omega) hal]; rfl
theorem g_validL (l : List RRat) (hl : RowOk 8 l) : Takes Tryz.prog 43 [(.sl 67 4 (List.map encR l))] (.val (.bool ((vRow l)))) := by
  have hb := hl.2
  refine fn_intro Tryz.func43 rfl cb43 rfl ?_
  show PWp _ _ _ _ ⟨[(0, (vl 67 4 encR l))], []⟩
  refine pwp_seq <| kx [] [] (zM <| zZ) ?_
  refine pwp_seq <| pwp_seq <| kx [(3, (vin 0))] [] (zM <| zZ) ?_
  refine pwp_block <| pwp_loop (α := Nat) (fun i => ⟨[(0, (vl 67 4 encR l)), (3, (vin i))], []⟩) (fun i => i ≤ l.length ∧ (l.take i).all validR = true) (fun i => l.length - i) 0 wk ⟨Nat.zero_le _, by simp⟩ ?_
  rintro i ⟨hi, hal⟩
  refine pwp_seq <| pwp_seq <| kx [(7, (vb (decide (((i : Nat) : Int) < ((l.length : Nat) : Int)))))] [] (zM <| zM <| zE (oLm el82) <| zE oLt <| zZ) ?_
  refine pwp_cond rfl (fun h1 => ?_) (fun h1 => ?_)
  · replace h1 := of_decide_eq_true h1
    refine pwp_skip <| pwp_seq <| pwp_block <| pwp_seq <| kx [(15, (vb (!(validR (l.getD i (RRat.mk (RInt.mk false []) (RInt.mk false [])))))))] [] (zM <| zM <| zE (oXl el82 i (RRat.mk (RInt.mk false []) (RInt.mk false []))) <| zE (oCa sh67) <| zE (oCl (g_valid (l.getD i (RRat.mk (RInt.mk false []) (RInt.mk false []))) (toQ (l.getD i (RRat.mk (RInt.mk false []) (RInt.mk false [])))) (qok_up (qok_at hl.1 (show i < l.length by omega)) (by decide)))) <| zE oNt <| zZ) ?_
    refine pwp_cond rfl (fun h2 => ?_) (fun h2 => ?_)
    · refine pwp_seq <| kx [(2, (vb false))] [] (zM <| zZ) ?_
      refine pwp_ret ⟨_, (.tmp (d := (.val (.bool (false)))) rfl .nil), ?_⟩
      rw [show vRow l = false from all_not (f := validR) (l := l) (i := i) (d := (RRat.mk (RInt.mk false []) (RInt.mk false []))) (by omega) (by simpa using h2)]; rfl
    · refine pwp_skip <| kx [(3, (vin (i + 1)))] [] (zM <| zE (oAd (i + 1)) <| zM <| zZ) ?_
      exact ⟨(i + 1), wk, ⟨by omega, all_take (d := (RRat.mk (RInt.mk false []) (RInt.mk false []))) (by omega) hal (by simpa using h2)⟩, (by first | omega | (dsimp only; omega))⟩
  · replace h1 := of_decide_eq_false h1
    have hie : i = l.length := by omega
    rw [hie, List.take_length] at hal
    refine pwp_exit <| pwp_seq <| kx [(2, (vb true))] [] (zM <| zZ) ?_
    refine pwp_ret ⟨_, (.tmp (d := (.val (.bool (true)))) rfl .nil), ?_⟩
    rw [show vRow l = true from hal]; rfl
theorem d_affine (h : A9 RInt) (h0 h1 h2 h3 h4 h5 h6 h7 h8 : Int) (hh0 : IOk h.a0 h0 1000000) (hh1 : IOk h.a1 h1 1000000) (hh2 : IOk h.a2 h2 1000000) (hh3 : IOk h.a3 h3 1000000) (hh4 : IOk h.a4 h4 1000000) (hh5 : IOk h.a5 h5 1000000) (hh6 : IOk h.a6 h6 1000000) (hh7 : IOk h.a7 h7 1000000) (hh8 : IOk h.a8 h8 1000000) : Takes Tryz.prog 39 [(encA31 h)] (.val (.bool ((((valH [h.a0, h.a1, h.a2, h.a3, h.a4, h.a5, h.a6, h.a7, h.a8] (det3 h0 h1 h2 h3 h4 h5 h6 h7 h8)) && (signI h6 == 0)) && (signI h7 == 0))))) := by
  refine fn_intro Tryz.func39 rfl cb39 rfl ?_
  show PWp _ _ _ _ ⟨[(0, (.d (encA31 h)))], []⟩
  refine pwp_seq <| kx [(1, (.ref 0 0))] [(0, some (bx (encA31 h)))] (zN (oBx 0) <| zM <| zZ) ?_
  refine pwp_seq <| kx [(2, (vb (((valH [h.a0, h.a1, h.a2, h.a3, h.a4, h.a5, h.a6, h.a7, h.a8] (det3 h0 h1 h2 h3 h4 h5 h6 h7 h8)) && ((signI h6) == 0)) && ((signI h7) == 0))))] [] ?_ ?_
  · refine zR (oLa sh32) <| zE (oCl (d_valid h h0 h1 h2 h3 h4 h5 h6 h7 h8 hh0 hh1 hh2 hh3 hh4 hh5 hh6 hh7 hh8)) <| zE (oV (vb (valH [h.a0, h.a1, h.a2, h.a3, h.a4, h.a5, h.a6, h.a7, h.a8] (det3 h0 h1 h2 h3 h4 h5 h6 h7 h8))) (mv_ok (by kernel_rfl))) <| ?_
    rcases hb1 : (valH [h.a0, h.a1, h.a2, h.a3, h.a4, h.a5, h.a6, h.a7, h.a8] (det3 h0 h1 h2 h3 h4 h5 h6 h7 h8)) with _ | _
    · exact zK <| zK <| zK <| zK <| zE oPf <| zM <| zK <| zK <| zK <| zK <| zE oPf <| zM <| zZ
    · refine zE (oXr ar32 6) <| zR (oLa sh30) <| zE (oCl (s_sign hh6 (by decide))) <| zE oEq <| zE oPa <| zE (oV (vb (true && ((signI h6) == 0))) (mv_ok (by kernel_rfl))) <| ?_
      rcases hb2 : (true && ((signI h6) == 0)) with _ | _
      · exact zK <| zK <| zK <| zK <| zE oPf <| zM <| zZ
      · exact zE (oXr ar32 7) <| zR (oLa sh30) <| zE (oCl (s_sign hh7 (by decide))) <| zE oEq <| zE oPa <| zM <| zZ
  refine pwp_ret ⟨_, (.tmp (d := (.val (.bool ((((valH [h.a0, h.a1, h.a2, h.a3, h.a4, h.a5, h.a6, h.a7, h.a8] (det3 h0 h1 h2 h3 h4 h5 h6 h7 h8)) && ((signI h6) == 0)) && ((signI h7) == 0)))))) rfl .nil), ?_⟩
  rfl
theorem d_ofE (m : List (List RRat)) (hm : MatOk 8 m) (he : m.all vRow = false) : Takes Tryz.prog 42 [(.sl 82 1 (List.map enc_sl_82 m))] (.tup [(encA31 (A9.mk (RInt.mk false []) (RInt.mk false []) (RInt.mk false []) (RInt.mk false []) (RInt.mk false []) (RInt.mk false []) (RInt.mk false []) (RInt.mk false []) (RInt.mk false []))), (.val (.int .i64 (1)))]) := by
  have hb := hm.2
  let y2 := (RRat.mk (RInt.mk false []) (RInt.mk false []))
  let y1 := (bx (encA31 (A9.mk (RInt.mk false []) (RInt.mk false []) (RInt.mk false []) (RInt.mk false []) (RInt.mk false []) (RInt.mk false []) (RInt.mk false []) (RInt.mk false []) (RInt.mk false []))))
  refine fn_intro Tryz.func42 rfl cb42 rfl ?_
  show PWp _ _ _ _ ⟨[(0, (vl 82 1 enc_sl_82 m))], []⟩
  refine pwp_seq <| kx [(2, (.ref 0 0))] [(0, some y1)] (zN (oAl 0 ze32 zo32) <| zM <| zZ) ?_
  refine pwp_seq <| kx [(4, (vb (((m.length : Nat) : Int) == 3)))] [] (zM <| zE (oLm el76) <| zE oEq <| zM <| zZ) ?_
  refine pwp_seq <| pwp_seq <| kx [(23, (vl 82 1 enc_sl_82 m)), (24, (vin m.length)), (25, (vin 0))] [] (zM <| zE (oLm el76) <| zM <| zZ) ?_
  refine pwp_block <| pwp_loop (α := Nat × Bool) (fun (i, b) => ⟨[(0, (vl 82 1 enc_sl_82 m)), (2, (.ref 0 0)), (4, (vb b)), (23, (vl 82 1 enc_sl_82 m)), (24, (vin m.length)), (25, (vin i))], [(0, some y1)]⟩) (fun (i, b) => i ≤ m.length ∧ (m.take i).all vRow = true) (fun (i, b) => m.length - i) (0, (((m.length : Nat) : Int) == 3)) wk ⟨Nat.zero_le _, by simp⟩ ?_
  rintro ⟨i, b⟩ ⟨hi, hav⟩
  refine pwp_seq <| kx [(26, (vb (decide (((i : Nat) : Int) < ((m.length : Nat) : Int)))))] [] (zE oLt <| zZ) ?_
  refine pwp_seq <| pwp_cond rfl (fun h1 => ?_) (fun h1 => ?_)
  · replace h1 := of_decide_eq_true h1
    refine pwp_skip <| pwp_seq <| pwp_block <| pwp_seq <| kx [(6, (vl 67 4 encR (m.getD i [])))] [] (zE (oXl el76 i ([] : List (RRat))) <| zE (oC1 sh82) <| zM <| zZ) ?_
    refine pwp_seq <| kx [(4, (vb (b && ((((m.getD i []).length : Nat) : Int) == 3))))] [] ?_ ?_
    · refine zM <| zE (oV (vb b) (mv_ok (by kernel_rfl))) <| ?_
      rcases hb2 : b with _ | _
      · exact zK <| zK <| zK <| zE oPf <| zM <| zZ
      · exact zM <| zE (oLm el82 (L := (m.getD i []))) <| zE oEq <| zE oPa <| zM <| zZ
    refine pwp_seq <| kx [(35, (vl 67 4 encR (m.getD i []))), (36, (vin ((m.getD i []).length))), (37, (vin 0))] [] (zM <| zE (oLm el82 (L := (m.getD i []))) <| zM <| zZ) ?_
    refine pwp_block <| pwp_loop (α := Nat) (fun j => ⟨[(0, (vl 82 1 enc_sl_82 m)), (2, (.ref 0 0)), (4, (vb (b && ((((m.getD i []).length : Nat) : Int) == 3)))), (23, (vl 82 1 enc_sl_82 m)), (24, (vin m.length)), (25, (vin i)), (35, (vl 67 4 encR (m.getD i []))), (36, (vin ((m.getD i []).length))), (37, (vin j))], [(0, some y1)]⟩) (fun j => j ≤ (m.getD i []).length ∧ ((m.getD i []).take j).all validR = true) (fun j => (m.getD i []).length - j) 0 wk ⟨Nat.zero_le _, by simp⟩ ?_
    rintro j ⟨hj, hal⟩
    have hrb := (row_get (d := []) hm (show i < m.length by omega)).2
    refine pwp_seq <| kx [(38, (vb (decide (((j : Nat) : Int) < (((m.getD i []).length : Nat) : Int)))))] [] (zE oLt <| zZ) ?_
    refine pwp_seq <| pwp_cond rfl (fun h3 => ?_) (fun h3 => ?_)
    · replace h3 := of_decide_eq_true h3
      refine pwp_skip <| pwp_seq <| pwp_block <| pwp_seq <| kx [(8, (.ref 1 0))] [(1, some (bx (encR ((m.getD i []).getD j y2))))] (zE (oXl el82 j y2 (L := (m.getD i []))) <| zE (oCa sh67) <| zN (oAl 1 ze67 zo67) <| zT (oSt sh67) <| zZ) ?_
      refine pwp_seq <| kx [(43, (vb (!(validR ((m.getD i []).getD j y2)))))] [] (zR (oLa sh67) <| zE (oCl (f_valid ((m.getD i []).getD j y2) (toQ ((m.getD i []).getD j y2)) (qok_up (qok_at (row_get (d := []) hm (show i < m.length by omega)).1 (show j < (m.getD i []).length by omega)) (by decide)))) <| zE oNt <| zZ) ?_
      refine pwp_cond rfl (fun h4 => ?_) (fun h4 => ?_)
      · refine pwp_seq <| kx [(3, (vin 1))] [(0, some y1)] (zE (oBa ar32 ze32 zo32) <| zT (oSt sh32) <| zM <| zZ) ?_
        refine pwp_ret ⟨_, (res_a (cs := (bx (encA31 (A9.mk (RInt.mk false []) (RInt.mk false []) (RInt.mk false []) (RInt.mk false []) (RInt.mk false []) (RInt.mk false []) (RInt.mk false []) (RInt.mk false []) (RInt.mk false []))))) (d := (encA31 (A9.mk (RInt.mk false []) (RInt.mk false []) (RInt.mk false []) (RInt.mk false []) (RInt.mk false []) (RInt.mk false []) (RInt.mk false []) (RInt.mk false []) (RInt.mk false [])))) rfl rfl sh32 rfl rfl (.tmp (d := (.val (.int .i64 (1)))) rfl .nil)), ?_⟩
        rfl
      · refine pwp_skip <| kx [(37, (vin (j + 1)))] [] (zE (oAd (j + 1)) <| zM <| zZ) ?_
        exact ⟨(j + 1), wk, ⟨by omega, all_take (d := (RRat.mk (RInt.mk false []) (RInt.mk false []))) (by omega) hal (by simpa using h4)⟩, (by first | omega | (dsimp only; omega))⟩
    · replace h3 := of_decide_eq_false h3
      have hje : j = (m.getD i []).length := by omega
      rw [hje, List.take_length] at hal
      refine pwp_exit <| kx [(25, (vin (i + 1)))] [] (zE (oAd (i + 1)) <| zM <| zZ) ?_
      exact ⟨(i + 1, (b && ((((m.getD i []).length : Nat) : Int) == 3))), wk, ⟨by omega, all_take (d := []) (by omega) hav hal⟩, (by first | omega | (dsimp only; omega))⟩
  · replace h1 := of_decide_eq_false h1
    exfalso; have hie : i = m.length := (by omega); rw [hie, List.take_length, he] at hav; cases hav
theorem d_ofM (m : List (List RRat)) (hm : MatOk 8 m) (hv : m.all vRow = true) (hf : fitB m = false) : Takes Tryz.prog 42 [(.sl 82 1 (List.map enc_sl_82 m))] (.tup [(encA31 (A9.mk (RInt.mk false []) (RInt.mk false []) (RInt.mk false []) (RInt.mk false []) (RInt.mk false []) (RInt.mk false []) (RInt.mk false []) (RInt.mk false []) (RInt.mk false []))), (.val (.int .i64 (4)))]) := by
  have hb := hm.2
  let y1 := (bx (encA31 (A9.mk (RInt.mk false []) (RInt.mk false []) (RInt.mk false []) (RInt.mk false []) (RInt.mk false []) (RInt.mk false []) (RInt.mk false []) (RInt.mk false []) (RInt.mk false []))))
  refine fn_intro Tryz.func42 rfl cb42 rfl ?_
  show PWp _ _ _ _ ⟨[(0, (vl 82 1 enc_sl_82 m))], []⟩
  refine pwp_seq <| kx [(2, (.ref 0 0))] [(0, some y1)] (zN (oAl 0 ze32 zo32) <| zM <| zZ) ?_
  refine pwp_seq <| kx [(4, (vb (((m.length : Nat) : Int) == 3)))] [] (zM <| zE (oLm el76) <| zE oEq <| zM <| zZ) ?_
  refine pwp_seq <| pwp_seq <| kx [(23, (vl 82 1 enc_sl_82 m)), (24, (vin m.length)), (25, (vin 0))] [] (zM <| zE (oLm el76) <| zM <| zZ) ?_
  refine pwp_block <| pwp_loop (α := Nat × Bool) (fun (i, b) => ⟨[(0, (vl 82 1 enc_sl_82 m)), (2, (.ref 0 0)), (4, (vb b)), (23, (vl 82 1 enc_sl_82 m)), (24, (vin m.length)), (25, (vin i))], [(0, some y1)]⟩) (fun (i, b) => i ≤ m.length ∧ b = ((((m.length : Nat) : Int) == 3) && (m.take i).all fitR)) (fun (i, b) => m.length - i) (0, (((m.length : Nat) : Int) == 3)) wk ⟨Nat.zero_le _, by simp⟩ ?_
  rintro ⟨i, b⟩ ⟨hi, hbv⟩
  refine pwp_seq <| kx [(26, (vb (decide (((i : Nat) : Int) < ((m.length : Nat) : Int)))))] [] (zE oLt <| zZ) ?_
  refine pwp_seq <| pwp_cond rfl (fun h1 => ?_) (fun h1 => ?_)
  · replace h1 := of_decide_eq_true h1
    refine pwp_skip <| pwp_seq <| pwp_block <| pwp_seq <| kx [(6, (vl 67 4 encR (m.getD i [])))] [] (zE (oXl el76 i ([] : List (RRat))) <| zE (oC1 sh82) <| zM <| zZ) ?_
    refine pwp_seq <| kx [(4, (vb (b && ((((m.getD i []).length : Nat) : Int) == 3))))] [] ?_ ?_
    · refine zM <| zE (oV (vb b) (mv_ok (by kernel_rfl))) <| ?_
      rcases hb2 : b with _ | _
      · exact zK <| zK <| zK <| zE oPf <| zM <| zZ
      · exact zM <| zE (oLm el82 (L := (m.getD i []))) <| zE oEq <| zE oPa <| zM <| zZ
    refine pwp_seq <| kx [(35, (vl 67 4 encR (m.getD i []))), (36, (vin ((m.getD i []).length))), (37, (vin 0))] [] (zM <| zE (oLm el82 (L := (m.getD i []))) <| zM <| zZ) ?_
    refine pwp_block <| pwp_loop (α := Nat) (fun j => ⟨[(0, (vl 82 1 enc_sl_82 m)), (2, (.ref 0 0)), (4, (vb (b && ((((m.getD i []).length : Nat) : Int) == 3)))), (23, (vl 82 1 enc_sl_82 m)), (24, (vin m.length)), (25, (vin i)), (35, (vl 67 4 encR (m.getD i []))), (36, (vin ((m.getD i []).length))), (37, (vin j))], [(0, some y1)]⟩) (fun j => j ≤ (m.getD i []).length) (fun j => (m.getD i []).length - j) 0 wk (Nat.zero_le _) ?_
    rintro j hj
    have hrb := (row_get (d := []) hm (show i < m.length by omega)).2
    refine pwp_seq <| kx [(38, (vb (decide (((j : Nat) : Int) < (((m.getD i []).length : Nat) : Int)))))] [] (zE oLt <| zZ) ?_
    refine pwp_seq <| pwp_cond rfl (fun h3 => ?_) (fun h3 => ?_)
    · replace h3 := of_decide_eq_true h3
      refine pwp_skip <| pwp_seq <| pwp_block <| pwp_seq <| kx [(8, (.ref 1 0))] [(1, some (bx (encR ((m.getD i []).getD j (RRat.mk (RInt.mk false []) (RInt.mk false []))))))] (zE (oXl el82 j (RRat.mk (RInt.mk false []) (RInt.mk false [])) (L := (m.getD i []))) <| zE (oCa sh67) <| zN (oAl 1 ze67 zo67) <| zT (oSt sh67) <| zZ) ?_
      refine pwp_seq <| kx [(43, (vb false))] [] (zR (oLa sh67) <| zE (oBk true (oCl (f_valid ((m.getD i []).getD j (RRat.mk (RInt.mk false []) (RInt.mk false []))) (toQ ((m.getD i []).getD j (RRat.mk (RInt.mk false []) (RInt.mk false [])))) (qok_up (qok_at (row_get (d := []) hm (show i < m.length by omega)).1 (show j < (m.getD i []).length by omega)) (by decide)))) (by exact (valid_get (vrow_get hv (show i < m.length by omega)) (show j < (m.getD i []).length by omega)))) <| zE oNt <| zZ) ?_
      refine pwp_cond (b := false) (by kernel_rfl) (fun h => by cases h) (fun _ => ?_)
      refine pwp_skip <| kx [(37, (vin (j + 1)))] [] (zE (oAd (j + 1)) <| zM <| zZ) ?_
      exact ⟨(j + 1), wk, (by show j + 1 ≤ (m.getD i []).length; omega), (by first | omega | (dsimp only; omega))⟩
    · replace h3 := of_decide_eq_false h3
      refine pwp_exit <| kx [(25, (vin (i + 1)))] [] (zE (oAd (i + 1)) <| zM <| zZ) ?_
      exact ⟨(i + 1, (b && ((((m.getD i []).length : Nat) : Int) == 3))), wk, ⟨by omega, fit_step (by omega) hbv⟩, (by first | omega | (dsimp only; omega))⟩
  · replace h1 := of_decide_eq_false h1
    have hie : i = m.length := by omega
    rw [hie, List.take_length] at hbv
    have hb0 : b = false := hbv.trans hf
    refine pwp_exit <| pwp_seq <| pwp_seq <| kx [(48, (vb (!b)))] [] (zM <| zE oNt <| zZ) ?_
    refine pwp_cond (b := !b) rfl (fun h4 => ?_) (fun h4 => ?_)
    · refine pwp_seq <| kx [(3, (vin 4))] [(0, some y1)] (zE (oBa ar32 ze32 zo32) <| zT (oSt sh32) <| zM <| zZ) ?_
      refine pwp_ret ⟨_, (res_a (cs := (bx (encA31 (A9.mk (RInt.mk false []) (RInt.mk false []) (RInt.mk false []) (RInt.mk false []) (RInt.mk false []) (RInt.mk false []) (RInt.mk false []) (RInt.mk false []) (RInt.mk false []))))) (d := (encA31 (A9.mk (RInt.mk false []) (RInt.mk false []) (RInt.mk false []) (RInt.mk false []) (RInt.mk false []) (RInt.mk false []) (RInt.mk false []) (RInt.mk false []) (RInt.mk false [])))) rfl rfl sh32 rfl rfl (.tmp (d := (.val (.int .i64 (4)))) rfl .nil)), ?_⟩
      rfl
    · rw [hb0] at h4; cases h4
theorem d_of (n0 d0 n1 d1 n2 d2 n3 d3 n4 d4 n5 d5 n6 d6 n7 d7 n8 d8 : Int) (hn0 : IOk (ofZ n0) n0 8) (hd0 : IOk (ofZ d0) d0 8) (hn1 : IOk (ofZ n1) n1 8) (hd1 : IOk (ofZ d1) d1 8) (hn2 : IOk (ofZ n2) n2 8) (hd2 : IOk (ofZ d2) d2 8) (hn3 : IOk (ofZ n3) n3 8) (hd3 : IOk (ofZ d3) d3 8) (hn4 : IOk (ofZ n4) n4 8) (hd4 : IOk (ofZ d4) d4 8) (hn5 : IOk (ofZ n5) n5 8) (hd5 : IOk (ofZ d5) d5 8) (hn6 : IOk (ofZ n6) n6 8) (hd6 : IOk (ofZ d6) d6 8) (hn7 : IOk (ofZ n7) n7 8) (hd7 : IOk (ofZ d7) d7 8) (hn8 : IOk (ofZ n8) n8 8) (hd8 : IOk (ofZ d8) d8 8) (hm : MatOk 8 [[(RRat.mk (ofZ n0) (ofZ d0)), (RRat.mk (ofZ n1) (ofZ d1)), (RRat.mk (ofZ n2) (ofZ d2))], [(RRat.mk (ofZ n3) (ofZ d3)), (RRat.mk (ofZ n4) (ofZ d4)), (RRat.mk (ofZ n5) (ofZ d5))], [(RRat.mk (ofZ n6) (ofZ d6)), (RRat.mk (ofZ n7) (ofZ d7)), (RRat.mk (ofZ n8) (ofZ d8))]]) (e0 : Int) (he0 : (1 * d0) = e0) (e1 : Int) (he1 : (e0 * d1) = e1) (e2 : Int) (he2 : (e1 * d2) = e2) (e3 : Int) (he3 : (e2 * d3) = e3) (e4 : Int) (he4 : (e3 * d4) = e4) (e5 : Int) (he5 : (e4 * d5) = e5) (e6 : Int) (he6 : (e5 * d6) = e6) (e7 : Int) (he7 : (e6 * d7) = e7) (e8 : Int) (he8 : (e7 * d8) = e8) (w0 : Int) (hw0 : ((e8.fdiv d0) * n0) = w0) (w1 : Int) (hw1 : ((e8.fdiv d1) * n1) = w1) (w2 : Int) (hw2 : ((e8.fdiv d2) * n2) = w2) (w3 : Int) (hw3 : ((e8.fdiv d3) * n3) = w3) (w4 : Int) (hw4 : ((e8.fdiv d4) * n4) = w4) (w5 : Int) (hw5 : ((e8.fdiv d5) * n5) = w5) (w6 : Int) (hw6 : ((e8.fdiv d6) * n6) = w6) (w7 : Int) (hw7 : ((e8.fdiv d7) * n7) = w7) (w8 : Int) (hw8 : ((e8.fdiv d8) * n8) = w8) (c0 c1 c2 c3 c4 c5 c6 c7 c8 : Int) (hc : redL [w0, w1, w2, w3, w4, w5, w6, w7, w8] = [c0, c1, c2, c3, c4, c5, c6, c7, c8]) (hv0 : validR (RRat.mk (ofZ n0) (ofZ d0)) = true) (hv1 : validR (RRat.mk (ofZ n1) (ofZ d1)) = true) (hv2 : validR (RRat.mk (ofZ n2) (ofZ d2)) = true) (hv3 : validR (RRat.mk (ofZ n3) (ofZ d3)) = true) (hv4 : validR (RRat.mk (ofZ n4) (ofZ d4)) = true) (hv5 : validR (RRat.mk (ofZ n5) (ofZ d5)) = true) (hv6 : validR (RRat.mk (ofZ n6) (ofZ d6)) = true) (hv7 : validR (RRat.mk (ofZ n7) (ofZ d7)) = true) (hv8 : validR (RRat.mk (ofZ n8) (ofZ d8)) = true) (hz0 : d0 ≠ 0) (hz1 : d1 ≠ 0) (hz2 : d2 ≠ 0) (hz3 : d3 ≠ 0) (hz4 : d4 ≠ 0) (hz5 : d5 ≠ 0) (hz6 : d6 ≠ 0) (hz7 : d7 ≠ 0) (hz8 : d8 ≠ 0) (hnz : sgnL [w0, w1, w2, w3, w4, w5, w6, w7, w8] ≠ 0) (hd : signI (det3 w0 w1 w2 w3 w4 w5 w6 w7 w8) ≠ 0) : Takes Tryz.prog 42 [(.sl 82 1 (List.map enc_sl_82 [[(RRat.mk (ofZ n0) (ofZ d0)), (RRat.mk (ofZ n1) (ofZ d1)), (RRat.mk (ofZ n2) (ofZ d2))], [(RRat.mk (ofZ n3) (ofZ d3)), (RRat.mk (ofZ n4) (ofZ d4)), (RRat.mk (ofZ n5) (ofZ d5))], [(RRat.mk (ofZ n6) (ofZ d6)), (RRat.mk (ofZ n7) (ofZ d7)), (RRat.mk (ofZ n8) (ofZ d8))]]))] (.tup [(encA31 (A9.mk (ofZ c0) (ofZ c1) (ofZ c2) (ofZ c3) (ofZ c4) (ofZ c5) (ofZ c6) (ofZ c7) (ofZ c8))), (.val (.int .i64 (0)))]) := by
  let y6 := [(RRat.mk (ofZ n6) (ofZ d6)), (RRat.mk (ofZ n7) (ofZ d7)), (RRat.mk (ofZ n8) (ofZ d8))]
  let y5 := [(RRat.mk (ofZ n3) (ofZ d3)), (RRat.mk (ofZ n4) (ofZ d4)), (RRat.mk (ofZ n5) (ofZ d5))]
  let y4 := [(RRat.mk (ofZ n0) (ofZ d0)), (RRat.mk (ofZ n1) (ofZ d1)), (RRat.mk (ofZ n2) (ofZ d2))]
  let y3 := (A9.mk (ofZ w0) (ofZ w1) (ofZ w2) (ofZ w3) (ofZ w4) (ofZ w5) (ofZ w6) (ofZ w7) (ofZ w8))
  let y2 := (bx (encA31 (A9.mk (ofZ w0) (ofZ w1) (RInt.mk false []) (RInt.mk false []) (RInt.mk false []) (RInt.mk false []) (RInt.mk false []) (RInt.mk false []) (RInt.mk false []))))
  let y1 := (bx (encA31 (A9.mk (RInt.mk false []) (RInt.mk false []) (RInt.mk false []) (RInt.mk false []) (RInt.mk false []) (RInt.mk false []) (RInt.mk false []) (RInt.mk false []) (RInt.mk false []))))
  refine fn_intro Tryz.func42 rfl cb42 rfl ?_
  show PWp _ _ _ _ ⟨[(0, (vl 82 1 enc_sl_82 [y4, y5, y6]))], []⟩
  refine pwp_seq <| kx [(2, (.ref 0 0))] [(0, some y1)] (zN (oAl 0 ze32 zo32) <| zM <| zZ) ?_
  refine pwp_seq <| kx [(4, (vb true))] [] (zM <| zE (oLn el76 3 (hr := rfl)) <| zE oEq <| zM <| zZ) ?_
  refine pwp_seq <| pwp_seq <| kx [(23, (vl 82 1 enc_sl_82 [y4, y5, y6])), (24, (vin 3)), (25, (vin 0))] [] (zM <| zE (oLn el76 3 (hr := rfl)) <| zM <| zZ) ?_
  refine pwp_block <| pwp_rounds 20 ?_
  refine pwp_round <| pwp_seq <| kx [(26, (vb true))] [] (zE (oBk true oLt) <| zZ) ?_
  refine pwp_seq <| pwp_cond (b := true) (by kernel_rfl) (fun _ => ?_) (fun h => by cases h)
  refine pwp_skip <| pwp_seq <| pwp_block <| pwp_seq <| kx [(6, (vl 67 4 encR y4))] [] (zE (oXs el76 0) <| zE (oC1 sh82) <| zM <| zZ) ?_
  refine pwp_seq <| kx [(4, (vb true))] [] (zM <| zM <| zM <| zE (oLn el82 3 (hr := rfl)) <| zE oEq <| zE oPt <| zM <| zZ) ?_
  refine pwp_seq <| kx [(35, (vl 67 4 encR y4)), (36, (vin 3)), (37, (vin 0))] [] (zM <| zE (oLn el82 3 (hr := rfl)) <| zM <| zZ) ?_
  refine pwp_block <| pwp_rounds 20 ?_
  refine pwp_round <| pwp_seq <| kx [(38, (vb true))] [] (zE (oBk true oLt) <| zZ) ?_
  refine pwp_seq <| pwp_cond (b := true) (by kernel_rfl) (fun _ => ?_) (fun h => by cases h)
  refine pwp_skip <| pwp_seq <| pwp_block <| pwp_seq <| kx [(8, (.ref 1 0))] [(1, some (bx (encR (RRat.mk (ofZ n0) (ofZ d0)))))] (zE (oXs el82 0) <| zE (oCa sh67) <| zN (oAl 1 ze67 zo67) <| zT (oSt sh67) <| zZ) ?_
  refine pwp_seq <| kx [(43, (vb false))] [] (zR (oLa sh67) <| zE (oBk true (oCl (f_valid (RRat.mk (ofZ n0) (ofZ d0)) (toQ (RRat.mk (ofZ n0) (ofZ d0))) (qok_up (qok_raw (n := 8) (by decide) hn0.l hd0.l) (by decide)))) (by exact hv0)) <| zE oNt <| zZ) ?_
  refine pwp_cond (b := false) (by kernel_rfl) (fun h => by cases h) (fun _ => ?_)
  refine pwp_skip <| kx [(37, (vin 1))] [] (zE (oAd 1 (hr := by decide)) <| zM <| zZ) ?_
  refine pwp_again (SimImp.refl _) ?_
  refine pwp_seq <| kx [(38, (vb true))] [] (zE (oBk true oLt) <| zZ) ?_
  refine pwp_seq <| pwp_cond (b := true) (by kernel_rfl) (fun _ => ?_) (fun h => by cases h)
  refine pwp_skip <| pwp_seq <| pwp_block <| pwp_seq <| kx [(8, (.ref 2 0))] [(2, some (bx (encR (RRat.mk (ofZ n1) (ofZ d1)))))] (zE (oXs el82 1) <| zE (oCa sh67) <| zN (oAl 2 ze67 zo67) <| zT (oSt sh67) <| zZ) ?_
  refine pwp_seq <| kx [(43, (vb false))] [] (zR (oLa sh67) <| zE (oBk true (oCl (f_valid (RRat.mk (ofZ n1) (ofZ d1)) (toQ (RRat.mk (ofZ n1) (ofZ d1))) (qok_up (qok_raw (n := 8) (by decide) hn1.l hd1.l) (by decide)))) (by exact hv1)) <| zE oNt <| zZ) ?_
  refine pwp_cond (b := false) (by kernel_rfl) (fun h => by cases h) (fun _ => ?_)
  refine pwp_skip <| pwp_sim (wk (l := [(0, (vl 82 1 enc_sl_82 [y4, y5, y6])), (2, (.ref 0 0)), (4, (vb true)), (23, (vl 82 1 enc_sl_82 [y4, y5, y6])), (24, (vin 3)), (25, (vin 0)), (35, (vl 67 4 encR y4)), (36, (vin 3)), (37, (vin 1)), (43, (vb false))]) (b := [(0, some y1)])) ?_
  refine kx [(37, (vin 2))] [] (zE (oAd 2 (hr := by decide)) <| zM <| zZ) ?_
  refine pwp_again (SimImp.refl _) ?_
  refine pwp_seq <| kx [(38, (vb true))] [] (zE (oBk true oLt) <| zZ) ?_
  refine pwp_seq <| pwp_cond (b := true) (by kernel_rfl) (fun _ => ?_) (fun h => by cases h)
  refine pwp_skip <| pwp_seq <| pwp_block <| pwp_seq <| kx [(8, (.ref 3 0))] [(3, some (bx (encR (RRat.mk (ofZ n2) (ofZ d2)))))] (zE (oXs el82 2) <| zE (oCa sh67) <| zN (oAl 3 ze67 zo67) <| zT (oSt sh67) <| zZ) ?_
  refine pwp_seq <| kx [(43, (vb false))] [] (zR (oLa sh67) <| zE (oBk true (oCl (f_valid (RRat.mk (ofZ n2) (ofZ d2)) (toQ (RRat.mk (ofZ n2) (ofZ d2))) (qok_up (qok_raw (n := 8) (by decide) hn2.l hd2.l) (by decide)))) (by exact hv2)) <| zE oNt <| zZ) ?_
  refine pwp_cond (b := false) (by kernel_rfl) (fun h => by cases h) (fun _ => ?_)
  refine pwp_skip <| kx [(37, (vin 3))] [] (zE (oAd 3 (hr := by decide)) <| zM <| zZ) ?_
  refine pwp_again (SimImp.refl _) ?_
  refine pwp_seq <| kx [(38, (vb false))] [] (zE (oBk false oLt) <| zZ) ?_
  refine pwp_seq <| pwp_cond (b := false) (by kernel_rfl) (fun h => by cases h) (fun _ => ?_)
  refine pwp_exit <| kx [(25, (vin 1))] [] (zE (oAd 1 (hr := by decide)) <| zM <| zZ) ?_
  refine pwp_again (SimImp.refl _) ?_
  refine pwp_seq <| kx [(26, (vb true))] [] (zE (oBk true oLt) <| zZ) ?_
  refine pwp_seq <| pwp_cond (b := true) (by kernel_rfl) (fun _ => ?_) (fun h => by cases h)
  refine pwp_skip <| pwp_seq <| pwp_block <| pwp_seq <| kx [(6, (vl 67 4 encR y5))] [] (zE (oXs el76 1) <| zE (oC1 sh82) <| zM <| zZ) ?_
  refine pwp_seq <| kx [(4, (vb true))] [] (zM <| zM <| zM <| zE (oLn el82 3 (hr := rfl)) <| zE oEq <| zE oPt <| zM <| zZ) ?_
  refine pwp_seq <| kx [(35, (vl 67 4 encR y5)), (36, (vin 3)), (37, (vin 0))] [] (zM <| zE (oLn el82 3 (hr := rfl)) <| zM <| zZ) ?_
  refine pwp_block <| pwp_rounds 20 ?_
  refine pwp_round <| pwp_seq <| kx [(38, (vb true))] [] (zE (oBk true oLt) <| zZ) ?_
  refine pwp_seq <| pwp_cond (b := true) (by kernel_rfl) (fun _ => ?_) (fun h => by cases h)
  refine pwp_skip <| pwp_seq <| pwp_block <| pwp_seq <| kx [(8, (.ref 4 0))] [(4, some (bx (encR (RRat.mk (ofZ n3) (ofZ d3)))))] (zE (oXs el82 0) <| zE (oCa sh67) <| zN (oAl 4 ze67 zo67) <| zT (oSt sh67) <| zZ) ?_
  refine pwp_seq <| kx [(43, (vb false))] [] (zR (oLa sh67) <| zE (oBk true (oCl (f_valid (RRat.mk (ofZ n3) (ofZ d3)) (toQ (RRat.mk (ofZ n3) (ofZ d3))) (qok_up (qok_raw (n := 8) (by decide) hn3.l hd3.l) (by decide)))) (by exact hv3)) <| zE oNt <| zZ) ?_
  refine pwp_cond (b := false) (by kernel_rfl) (fun h => by cases h) (fun _ => ?_)
  refine pwp_skip <| pwp_sim (wk (l := [(0, (vl 82 1 enc_sl_82 [y4, y5, y6])), (2, (.ref 0 0)), (4, (vb true)), (23, (vl 82 1 enc_sl_82 [y4, y5, y6])), (24, (vin 3)), (25, (vin 1)), (35, (vl 67 4 encR y5)), (36, (vin 3)), (37, (vin 0)), (43, (vb false))]) (b := [(0, some y1)])) ?_
  refine kx [(37, (vin 1))] [] (zE (oAd 1 (hr := by decide)) <| zM <| zZ) ?_
  refine pwp_again (SimImp.refl _) ?_
  refine pwp_seq <| kx [(38, (vb true))] [] (zE (oBk true oLt) <| zZ) ?_
  refine pwp_seq <| pwp_cond (b := true) (by kernel_rfl) (fun _ => ?_) (fun h => by cases h)
  refine pwp_skip <| pwp_seq <| pwp_block <| pwp_seq <| kx [(8, (.ref 5 0))] [(5, some (bx (encR (RRat.mk (ofZ n4) (ofZ d4)))))] (zE (oXs el82 1) <| zE (oCa sh67) <| zN (oAl 5 ze67 zo67) <| zT (oSt sh67) <| zZ) ?_
  refine pwp_seq <| kx [(43, (vb false))] [] (zR (oLa sh67) <| zE (oBk true (oCl (f_valid (RRat.mk (ofZ n4) (ofZ d4)) (toQ (RRat.mk (ofZ n4) (ofZ d4))) (qok_up (qok_raw (n := 8) (by decide) hn4.l hd4.l) (by decide)))) (by exact hv4)) <| zE oNt <| zZ) ?_
  refine pwp_cond (b := false) (by kernel_rfl) (fun h => by cases h) (fun _ => ?_)
  refine pwp_skip <| kx [(37, (vin 2))] [] (zE (oAd 2 (hr := by decide)) <| zM <| zZ) ?_
  refine pwp_again (SimImp.refl _) ?_
  refine pwp_seq <| kx [(38, (vb true))] [] (zE (oBk true oLt) <| zZ) ?_
  refine pwp_seq <| pwp_cond (b := true) (by kernel_rfl) (fun _ => ?_) (fun h => by cases h)
  refine pwp_skip <| pwp_seq <| pwp_block <| pwp_seq <| kx [(8, (.ref 6 0))] [(6, some (bx (encR (RRat.mk (ofZ n5) (ofZ d5)))))] (zE (oXs el82 2) <| zE (oCa sh67) <| zN (oAl 6 ze67 zo67) <| zT (oSt sh67) <| zZ) ?_
  refine pwp_seq <| kx [(43, (vb false))] [] (zR (oLa sh67) <| zE (oBk true (oCl (f_valid (RRat.mk (ofZ n5) (ofZ d5)) (toQ (RRat.mk (ofZ n5) (ofZ d5))) (qok_up (qok_raw (n := 8) (by decide) hn5.l hd5.l) (by decide)))) (by exact hv5)) <| zE oNt <| zZ) ?_
  refine pwp_cond (b := false) (by kernel_rfl) (fun h => by cases h) (fun _ => ?_)
  refine pwp_skip <| kx [(37, (vin 3))] [] (zE (oAd 3 (hr := by decide)) <| zM <| zZ) ?_
  refine pwp_again (SimImp.refl _) ?_
  refine pwp_seq <| kx [(38, (vb false))] [] (zE (oBk false oLt) <| zZ) ?_
  refine pwp_seq <| pwp_cond (b := false) (by kernel_rfl) (fun h => by cases h) (fun _ => ?_)
  refine pwp_exit <| kx [(25, (vin 2))] [] (zE (oAd 2 (hr := by decide)) <| zM <| zZ) ?_
  refine pwp_again (SimImp.refl _) ?_
  refine pwp_seq <| kx [(26, (vb true))] [] (zE (oBk true oLt) <| zZ) ?_
  refine pwp_seq <| pwp_cond (b := true) (by kernel_rfl) (fun _ => ?_) (fun h => by cases h)
  refine pwp_skip <| pwp_seq <| pwp_block <| pwp_seq <| kx [(6, (vl 67 4 encR y6))] [] (zE (oXs el76 2) <| zE (oC1 sh82) <| zM <| zZ) ?_
  refine pwp_seq <| kx [(4, (vb true))] [] (zM <| zM <| zM <| zE (oLn el82 3 (hr := rfl)) <| zE oEq <| zE oPt <| zM <| zZ) ?_
  refine pwp_seq <| pwp_sim (wk (l := [(0, (vl 82 1 enc_sl_82 [y4, y5, y6])), (2, (.ref 0 0)), (4, (vb true)), (6, (vl 67 4 encR y6)), (23, (vl 82 1 enc_sl_82 [y4, y5, y6])), (24, (vin 3)), (25, (vin 2))]) (b := [(0, some y1)])) ?_
  refine kx [(35, (vl 67 4 encR y6)), (36, (vin 3)), (37, (vin 0))] [] (zM <| zE (oLn el82 3 (hr := rfl)) <| zM <| zZ) ?_
  refine pwp_block <| pwp_rounds 20 ?_
  refine pwp_round <| pwp_seq <| kx [(38, (vb true))] [] (zE (oBk true oLt) <| zZ) ?_
  refine pwp_seq <| pwp_cond (b := true) (by kernel_rfl) (fun _ => ?_) (fun h => by cases h)
  refine pwp_skip <| pwp_seq <| pwp_block <| pwp_seq <| kx [(8, (.ref 7 0))] [(7, some (bx (encR (RRat.mk (ofZ n6) (ofZ d6)))))] (zE (oXs el82 0) <| zE (oCa sh67) <| zN (oAl 7 ze67 zo67) <| zT (oSt sh67) <| zZ) ?_
  refine pwp_seq <| kx [(43, (vb false))] [] (zR (oLa sh67) <| zE (oBk true (oCl (f_valid (RRat.mk (ofZ n6) (ofZ d6)) (toQ (RRat.mk (ofZ n6) (ofZ d6))) (qok_up (qok_raw (n := 8) (by decide) hn6.l hd6.l) (by decide)))) (by exact hv6)) <| zE oNt <| zZ) ?_
  refine pwp_cond (b := false) (by kernel_rfl) (fun h => by cases h) (fun _ => ?_)
  refine pwp_skip <| kx [(37, (vin 1))] [] (zE (oAd 1 (hr := by decide)) <| zM <| zZ) ?_
  refine pwp_again (SimImp.refl _) ?_
  refine pwp_seq <| kx [(38, (vb true))] [] (zE (oBk true oLt) <| zZ) ?_
  refine pwp_seq <| pwp_cond (b := true) (by kernel_rfl) (fun _ => ?_) (fun h => by cases h)
  refine pwp_skip <| pwp_seq <| pwp_block <| pwp_seq <| kx [(8, (.ref 8 0))] [(8, some (bx (encR (RRat.mk (ofZ n7) (ofZ d7)))))] (zE (oXs el82 1) <| zE (oCa sh67) <| zN (oAl 8 ze67 zo67) <| zT (oSt sh67) <| zZ) ?_
  refine pwp_seq <| kx [(43, (vb false))] [] (zR (oLa sh67) <| zE (oBk true (oCl (f_valid (RRat.mk (ofZ n7) (ofZ d7)) (toQ (RRat.mk (ofZ n7) (ofZ d7))) (qok_up (qok_raw (n := 8) (by decide) hn7.l hd7.l) (by decide)))) (by exact hv7)) <| zE oNt <| zZ) ?_
  refine pwp_cond (b := false) (by kernel_rfl) (fun h => by cases h) (fun _ => ?_)
  refine pwp_skip <| kx [(37, (vin 2))] [] (zE (oAd 2 (hr := by decide)) <| zM <| zZ) ?_
  refine pwp_again (SimImp.refl _) ?_
  refine pwp_seq <| kx [(38, (vb true))] [] (zE (oBk true oLt) <| zZ) ?_
  refine pwp_seq <| pwp_cond (b := true) (by kernel_rfl) (fun _ => ?_) (fun h => by cases h)
  refine pwp_skip <| pwp_seq <| pwp_block <| pwp_seq <| kx [(8, (.ref 9 0))] [(9, some (bx (encR (RRat.mk (ofZ n8) (ofZ d8)))))] (zE (oXs el82 2) <| zE (oCa sh67) <| zN (oAl 9 ze67 zo67) <| zT (oSt sh67) <| zZ) ?_
  refine pwp_seq <| kx [(43, (vb false))] [] (zR (oLa sh67) <| zE (oBk true (oCl (f_valid (RRat.mk (ofZ n8) (ofZ d8)) (toQ (RRat.mk (ofZ n8) (ofZ d8))) (qok_up (qok_raw (n := 8) (by decide) hn8.l hd8.l) (by decide)))) (by exact hv8)) <| zE oNt <| zZ) ?_
  refine pwp_cond (b := false) (by kernel_rfl) (fun h => by cases h) (fun _ => ?_)
  refine pwp_skip <| kx [(37, (vin 3))] [] (zE (oAd 3 (hr := by decide)) <| zM <| zZ) ?_
  refine pwp_again (SimImp.refl _) ?_
  refine pwp_seq <| kx [(38, (vb false))] [] (zE (oBk false oLt) <| zZ) ?_
  refine pwp_seq <| pwp_cond (b := false) (by kernel_rfl) (fun h => by cases h) (fun _ => ?_)
  refine pwp_exit <| pwp_sim (wk (l := [(0, (vl 82 1 enc_sl_82 [y4, y5, y6])), (2, (.ref 0 0)), (4, (vb true)), (23, (vl 82 1 enc_sl_82 [y4, y5, y6])), (24, (vin 3)), (25, (vin 2)), (35, (vl 67 4 encR y6)), (36, (vin 3)), (37, (vin 3)), (38, (vb false))]) (b := [(0, some y1)])) ?_
  refine kx [(25, (vin 3))] [] (zE (oAd 3 (hr := by decide)) <| zM <| zZ) ?_
  refine pwp_again (SimImp.refl _) ?_
  refine pwp_seq <| kx [(26, (vb false))] [] (zE (oBk false oLt) <| zZ) ?_
  refine pwp_seq <| pwp_cond (b := false) (by kernel_rfl) (fun h => by cases h) (fun _ => ?_)
  refine pwp_exit <| pwp_seq <| pwp_seq <| kx [(48, (vb false))] [] (zM <| zE oNt <| zZ) ?_
  refine pwp_cond (b := false) (by kernel_rfl) (fun h => by cases h) (fun _ => ?_)
  refine pwp_skip <| pwp_seq <| kx [(9, (.ref 10 0))] [(10, some (bx (encI (ofZ 1))))] (zE (oCl (t_of 1 (by decide) (by decide))) <| zN (oAl 10 ze30 zo30) <| zT (oSt sh30) <| zZ) ?_
  refine pwp_seq <| pwp_seq <| kx [(51, (vl 82 1 enc_sl_82 [y4, y5, y6])), (52, (vin 3)), (53, (vin 0))] [] (zM <| zE (oLn el76 3 (hr := rfl)) <| zM <| zZ) ?_
  refine pwp_block <| pwp_rounds 20 ?_
  refine pwp_round <| pwp_seq <| kx [(54, (vb true))] [] (zE (oBk true oLt) <| zZ) ?_
  refine pwp_seq <| pwp_cond (b := true) (by kernel_rfl) (fun _ => ?_) (fun h => by cases h)
  refine pwp_skip <| pwp_seq <| pwp_block <| pwp_seq <| kx [(11, (vl 67 4 encR y4))] [] (zE (oXs el76 0) <| zE (oC1 sh82) <| zM <| zZ) ?_
  refine pwp_seq <| kx [(57, (vl 67 4 encR y4)), (58, (vin 3)), (59, (vin 0))] [] (zM <| zE (oLn el82 3 (hr := rfl)) <| zM <| zZ) ?_
  refine pwp_block <| pwp_rounds 20 ?_
  refine pwp_round <| pwp_seq <| kx [(60, (vb true))] [] (zE (oBk true oLt) <| zZ) ?_
  refine pwp_seq <| pwp_cond (b := true) (by kernel_rfl) (fun _ => ?_) (fun h => by cases h)
  refine pwp_skip <| pwp_seq <| pwp_block <| pwp_seq <| kx [(13, (.ref 11 0))] [(11, some (bx (encR (RRat.mk (ofZ n0) (ofZ d0)))))] (zE (oXs el82 0) <| zE (oCa sh67) <| zN (oAl 11 ze67 zo67) <| zT (oSt sh67) <| zZ) ?_
  have bn1 : IOk (ofZ e0) e0 9 := (iok_eqz he0.symm (iok_mul (k := 9) (iok_small (z := 1) (by decide)) hd0 (by decide)))
  refine kx [] [(10, some (bx (encI (ofZ e0))))] (zR (oLa sh30) <| zE (oFr fo67_1) <| zR (oLa sh30) <| zE (oCl (by have h := s_mul (iok_small (z := 1) (by decide)) hd0 (by decide) (by decide); rw [he0] at h; exact h)) <| zT (oSt sh30) <| zZ) ?_
  refine kx [(59, (vin 1))] [] (zE (oAd 1 (hr := by decide)) <| zM <| zZ) ?_
  refine pwp_again (SimImp.refl _) ?_
  refine pwp_seq <| kx [(60, (vb true))] [] (zE (oBk true oLt) <| zZ) ?_
  refine pwp_seq <| pwp_cond (b := true) (by kernel_rfl) (fun _ => ?_) (fun h => by cases h)
  refine pwp_skip <| pwp_seq <| pwp_block <| pwp_seq <| kx [(13, (.ref 12 0))] [(12, some (bx (encR (RRat.mk (ofZ n1) (ofZ d1)))))] (zE (oXs el82 1) <| zE (oCa sh67) <| zN (oAl 12 ze67 zo67) <| zT (oSt sh67) <| zZ) ?_
  refine pwp_sim (wk (l := [(0, (vl 82 1 enc_sl_82 [y4, y5, y6])), (2, (.ref 0 0)), (9, (.ref 10 0)), (13, (.ref 12 0)), (51, (vl 82 1 enc_sl_82 [y4, y5, y6])), (52, (vin 3)), (53, (vin 0)), (57, (vl 67 4 encR y4)), (58, (vin 3)), (59, (vin 1))]) (b := [(0, some y1), (10, some (bx (encI (ofZ e0)))), (12, some (bx (encR (RRat.mk (ofZ n1) (ofZ d1)))))])) ?_
  have bn2 : IOk (ofZ e1) e1 17 := (iok_eqz he1.symm (iok_mul (k := 17) bn1 hd1 (by decide)))
  refine kx [] [(10, some (bx (encI (ofZ e1))))] (zR (oLa sh30) <| zE (oFr fo67_1) <| zR (oLa sh30) <| zE (oCl (by have h := s_mul bn1 hd1 (by decide) (by decide); rw [he1] at h; exact h)) <| zT (oSt sh30) <| zZ) ?_
  refine kx [(59, (vin 2))] [] (zE (oAd 2 (hr := by decide)) <| zM <| zZ) ?_
  refine pwp_again (SimImp.refl _) ?_
  refine pwp_seq <| kx [(60, (vb true))] [] (zE (oBk true oLt) <| zZ) ?_
  refine pwp_seq <| pwp_cond (b := true) (by kernel_rfl) (fun _ => ?_) (fun h => by cases h)
  refine pwp_skip <| pwp_seq <| pwp_block <| pwp_seq <| kx [(13, (.ref 13 0))] [(13, some (bx (encR (RRat.mk (ofZ n2) (ofZ d2)))))] (zE (oXs el82 2) <| zE (oCa sh67) <| zN (oAl 13 ze67 zo67) <| zT (oSt sh67) <| zZ) ?_
  have bn3 : IOk (ofZ e2) e2 25 := (iok_eqz he2.symm (iok_mul (k := 25) bn2 hd2 (by decide)))
  refine kx [] [(10, some (bx (encI (ofZ e2))))] (zR (oLa sh30) <| zE (oFr fo67_1) <| zR (oLa sh30) <| zE (oCl (by have h := s_mul bn2 hd2 (by decide) (by decide); rw [he2] at h; exact h)) <| zT (oSt sh30) <| zZ) ?_
  refine kx [(59, (vin 3))] [] (zE (oAd 3 (hr := by decide)) <| zM <| zZ) ?_
  refine pwp_again (SimImp.refl _) ?_
  refine pwp_seq <| kx [(60, (vb false))] [] (zE (oBk false oLt) <| zZ) ?_
  refine pwp_seq <| pwp_cond (b := false) (by kernel_rfl) (fun h => by cases h) (fun _ => ?_)
  refine pwp_exit <| kx [(53, (vin 1))] [] (zE (oAd 1 (hr := by decide)) <| zM <| zZ) ?_
  refine pwp_again (SimImp.refl _) ?_
  refine pwp_seq <| kx [(54, (vb true))] [] (zE (oBk true oLt) <| zZ) ?_
  refine pwp_seq <| pwp_cond (b := true) (by kernel_rfl) (fun _ => ?_) (fun h => by cases h)
  refine pwp_skip <| pwp_seq <| pwp_block <| pwp_seq <| kx [(11, (vl 67 4 encR y5))] [] (zE (oXs el76 1) <| zE (oC1 sh82) <| zM <| zZ) ?_
  refine pwp_seq <| kx [(57, (vl 67 4 encR y5)), (58, (vin 3)), (59, (vin 0))] [] (zM <| zE (oLn el82 3 (hr := rfl)) <| zM <| zZ) ?_
  refine pwp_block <| pwp_rounds 20 ?_
  refine pwp_round <| pwp_seq <| kx [(60, (vb true))] [] (zE (oBk true oLt) <| zZ) ?_
  refine pwp_seq <| pwp_cond (b := true) (by kernel_rfl) (fun _ => ?_) (fun h => by cases h)
  refine pwp_skip <| pwp_seq <| pwp_block <| pwp_seq <| kx [(13, (.ref 14 0))] [(14, some (bx (encR (RRat.mk (ofZ n3) (ofZ d3)))))] (zE (oXs el82 0) <| zE (oCa sh67) <| zN (oAl 14 ze67 zo67) <| zT (oSt sh67) <| zZ) ?_
  have bn4 : IOk (ofZ e3) e3 33 := (iok_eqz he3.symm (iok_mul (k := 33) bn3 hd3 (by decide)))
  refine kx [] [(10, some (bx (encI (ofZ e3))))] (zR (oLa sh30) <| zE (oFr fo67_1) <| zR (oLa sh30) <| zE (oCl (by have h := s_mul bn3 hd3 (by decide) (by decide); rw [he3] at h; exact h)) <| zT (oSt sh30) <| zZ) ?_
  refine pwp_sim (wk (l := [(0, (vl 82 1 enc_sl_82 [y4, y5, y6])), (2, (.ref 0 0)), (9, (.ref 10 0)), (51, (vl 82 1 enc_sl_82 [y4, y5, y6])), (52, (vin 3)), (53, (vin 1)), (57, (vl 67 4 encR y5)), (58, (vin 3)), (59, (vin 0))]) (b := [(0, some y1), (10, some (bx (encI (ofZ e3))))])) ?_
  refine kx [(59, (vin 1))] [] (zE (oAd 1 (hr := by decide)) <| zM <| zZ) ?_
  refine pwp_again (SimImp.refl _) ?_
  refine pwp_seq <| kx [(60, (vb true))] [] (zE (oBk true oLt) <| zZ) ?_
  refine pwp_seq <| pwp_cond (b := true) (by kernel_rfl) (fun _ => ?_) (fun h => by cases h)
  refine pwp_skip <| pwp_seq <| pwp_block <| pwp_seq <| kx [(13, (.ref 15 0))] [(15, some (bx (encR (RRat.mk (ofZ n4) (ofZ d4)))))] (zE (oXs el82 1) <| zE (oCa sh67) <| zN (oAl 15 ze67 zo67) <| zT (oSt sh67) <| zZ) ?_
  have bn5 : IOk (ofZ e4) e4 41 := (iok_eqz he4.symm (iok_mul (k := 41) bn4 hd4 (by decide)))
  refine kx [] [(10, some (bx (encI (ofZ e4))))] (zR (oLa sh30) <| zE (oFr fo67_1) <| zR (oLa sh30) <| zE (oCl (by have h := s_mul bn4 hd4 (by decide) (by decide); rw [he4] at h; exact h)) <| zT (oSt sh30) <| zZ) ?_
  refine kx [(59, (vin 2))] [] (zE (oAd 2 (hr := by decide)) <| zM <| zZ) ?_
  refine pwp_again (SimImp.refl _) ?_
  refine pwp_seq <| kx [(60, (vb true))] [] (zE (oBk true oLt) <| zZ) ?_
  refine pwp_seq <| pwp_cond (b := true) (by kernel_rfl) (fun _ => ?_) (fun h => by cases h)
  refine pwp_skip <| pwp_seq <| pwp_block <| pwp_seq <| kx [(13, (.ref 16 0))] [(16, some (bx (encR (RRat.mk (ofZ n5) (ofZ d5)))))] (zE (oXs el82 2) <| zE (oCa sh67) <| zN (oAl 16 ze67 zo67) <| zT (oSt sh67) <| zZ) ?_
  have bn6 : IOk (ofZ e5) e5 49 := (iok_eqz he5.symm (iok_mul (k := 49) bn5 hd5 (by decide)))
  refine kx [] [(10, some (bx (encI (ofZ e5))))] (zR (oLa sh30) <| zE (oFr fo67_1) <| zR (oLa sh30) <| zE (oCl (by have h := s_mul bn5 hd5 (by decide) (by decide); rw [he5] at h; exact h)) <| zT (oSt sh30) <| zZ) ?_
  refine kx [(59, (vin 3))] [] (zE (oAd 3 (hr := by decide)) <| zM <| zZ) ?_
  refine pwp_again (SimImp.refl _) ?_
  refine pwp_seq <| kx [(60, (vb false))] [] (zE (oBk false oLt) <| zZ) ?_
  refine pwp_seq <| pwp_cond (b := false) (by kernel_rfl) (fun h => by cases h) (fun _ => ?_)
  refine pwp_exit <| kx [(53, (vin 2))] [] (zE (oAd 2 (hr := by decide)) <| zM <| zZ) ?_
  refine pwp_again (SimImp.refl _) ?_
  refine pwp_seq <| kx [(54, (vb true))] [] (zE (oBk true oLt) <| zZ) ?_
  refine pwp_seq <| pwp_cond (b := true) (by kernel_rfl) (fun _ => ?_) (fun h => by cases h)
  refine pwp_skip <| pwp_seq <| pwp_block <| pwp_seq <| kx [(11, (vl 67 4 encR y6))] [] (zE (oXs el76 2) <| zE (oC1 sh82) <| zM <| zZ) ?_
  refine pwp_seq <| kx [(57, (vl 67 4 encR y6)), (58, (vin 3)), (59, (vin 0))] [] (zM <| zE (oLn el82 3 (hr := rfl)) <| zM <| zZ) ?_
  refine pwp_block <| pwp_rounds 20 ?_
  refine pwp_round <| pwp_seq <| pwp_sim (wk (l := [(0, (vl 82 1 enc_sl_82 [y4, y5, y6])), (2, (.ref 0 0)), (9, (.ref 10 0)), (51, (vl 82 1 enc_sl_82 [y4, y5, y6])), (52, (vin 3)), (53, (vin 2)), (57, (vl 67 4 encR y6)), (58, (vin 3)), (59, (vin 0))]) (b := [(0, some y1), (10, some (bx (encI (ofZ e5))))])) ?_
  refine kx [(60, (vb true))] [] (zE (oBk true oLt) <| zZ) ?_
  refine pwp_seq <| pwp_cond (b := true) (by kernel_rfl) (fun _ => ?_) (fun h => by cases h)
  refine pwp_skip <| pwp_seq <| pwp_block <| pwp_seq <| kx [(13, (.ref 17 0))] [(17, some (bx (encR (RRat.mk (ofZ n6) (ofZ d6)))))] (zE (oXs el82 0) <| zE (oCa sh67) <| zN (oAl 17 ze67 zo67) <| zT (oSt sh67) <| zZ) ?_
  have bn7 : IOk (ofZ e6) e6 57 := (iok_eqz he6.symm (iok_mul (k := 57) bn6 hd6 (by decide)))
  refine kx [] [(10, some (bx (encI (ofZ e6))))] (zR (oLa sh30) <| zE (oFr fo67_1) <| zR (oLa sh30) <| zE (oCl (by have h := s_mul bn6 hd6 (by decide) (by decide); rw [he6] at h; exact h)) <| zT (oSt sh30) <| zZ) ?_
  refine kx [(59, (vin 1))] [] (zE (oAd 1 (hr := by decide)) <| zM <| zZ) ?_
  refine pwp_again (SimImp.refl _) ?_
  refine pwp_seq <| kx [(60, (vb true))] [] (zE (oBk true oLt) <| zZ) ?_
  refine pwp_seq <| pwp_cond (b := true) (by kernel_rfl) (fun _ => ?_) (fun h => by cases h)
  refine pwp_skip <| pwp_seq <| pwp_block <| pwp_seq <| kx [(13, (.ref 18 0))] [(18, some (bx (encR (RRat.mk (ofZ n7) (ofZ d7)))))] (zE (oXs el82 1) <| zE (oCa sh67) <| zN (oAl 18 ze67 zo67) <| zT (oSt sh67) <| zZ) ?_
  have bn8 : IOk (ofZ e7) e7 65 := (iok_eqz he7.symm (iok_mul (k := 65) bn7 hd7 (by decide)))
  refine kx [] [(10, some (bx (encI (ofZ e7))))] (zR (oLa sh30) <| zE (oFr fo67_1) <| zR (oLa sh30) <| zE (oCl (by have h := s_mul bn7 hd7 (by decide) (by decide); rw [he7] at h; exact h)) <| zT (oSt sh30) <| zZ) ?_
  refine kx [(59, (vin 2))] [] (zE (oAd 2 (hr := by decide)) <| zM <| zZ) ?_
  refine pwp_again (SimImp.refl _) ?_
  refine pwp_seq <| kx [(60, (vb true))] [] (zE (oBk true oLt) <| zZ) ?_
  refine pwp_seq <| pwp_cond (b := true) (by kernel_rfl) (fun _ => ?_) (fun h => by cases h)
  refine pwp_skip <| pwp_seq <| pwp_block <| pwp_seq <| kx [(13, (.ref 19 0))] [(19, some (bx (encR (RRat.mk (ofZ n8) (ofZ d8)))))] (zE (oXs el82 2) <| zE (oCa sh67) <| zN (oAl 19 ze67 zo67) <| zT (oSt sh67) <| zZ) ?_
  have bn9 : IOk (ofZ e8) e8 73 := (iok_eqz he8.symm (iok_mul (k := 73) bn8 hd8 (by decide)))
  refine kx [] [(10, some (bx (encI (ofZ e8))))] (zR (oLa sh30) <| zE (oFr fo67_1) <| zR (oLa sh30) <| zE (oCl (by have h := s_mul bn8 hd8 (by decide) (by decide); rw [he8] at h; exact h)) <| zT (oSt sh30) <| zZ) ?_
  refine kx [(59, (vin 3))] [] (zE (oAd 3 (hr := by decide)) <| zM <| zZ) ?_
  refine pwp_again (SimImp.refl _) ?_
  refine pwp_seq <| kx [(60, (vb false))] [] (zE (oBk false oLt) <| zZ) ?_
  refine pwp_seq <| pwp_cond (b := false) (by kernel_rfl) (fun h => by cases h) (fun _ => ?_)
  refine pwp_exit <| kx [(53, (vin 3))] [] (zE (oAd 3 (hr := by decide)) <| zM <| zZ) ?_
  refine pwp_again (SimImp.refl _) ?_
  refine pwp_seq <| pwp_sim (wk (l := [(0, (vl 82 1 enc_sl_82 [y4, y5, y6])), (2, (.ref 0 0)), (9, (.ref 10 0)), (51, (vl 82 1 enc_sl_82 [y4, y5, y6])), (52, (vin 3)), (53, (vin 3))]) (b := [(0, some y1), (10, some (bx (encI (ofZ e8))))])) ?_
  refine kx [(54, (vb false))] [] (zE (oBk false oLt) <| zZ) ?_
  refine pwp_seq <| pwp_cond (b := false) (by kernel_rfl) (fun h => by cases h) (fun _ => ?_)
  refine pwp_exit <| pwp_seq <| kx [(14, (.ref 20 0))] [(20, some y1)] (zN (oAl 20 ze32 zo32) <| zZ) ?_
  refine pwp_seq <| pwp_seq <| kx [(69, (vin 0))] [] (zM <| zZ) ?_
  refine pwp_block <| pwp_rounds 20 ?_
  refine pwp_round <| pwp_seq <| kx [(70, (vb true))] [] (zE (oBk true oLt) <| zZ) ?_
  refine pwp_seq <| pwp_cond (b := true) (by kernel_rfl) (fun _ => ?_) (fun h => by cases h)
  refine pwp_skip <| pwp_seq <| pwp_block <| pwp_seq <| kx [(15, (vin 0))] [] (zM <| zM <| zZ) ?_
  refine pwp_seq <| kx [(16, (.ref 21 0))] [(21, some (bx (encR (RRat.mk (ofZ n0) (ofZ d0)))))] (zM <| zM <| zE (oQu 0 (hr := by decide)) <| zE (oXs el76 0) <| zE (oC1 sh82) <| zM <| zE (oRe 0 (hr := by decide)) <| zE (oXs el82 0) <| zE (oCa sh67) <| zN (oAl 21 ze67 zo67) <| zT (oSt sh67) <| zZ) ?_
  refine pwp_seq <| kx [(17, (.ref 22 0))] [(22, some (bx (encI (ofZ (e8.fdiv d0))))), (23, none)] (zR (oLa sh30) <| zE (oFr fo67_1) <| zR (oLa sh30) <| zE (oCl (s_divide bn9 hd0 (by decide) (by decide) (by omega))) <| zM <| zE oEx <| zE oEx <| zE oEx <| zN (oAl 22 ze30 zo30) <| zN (oAl 23 ze30 zo30) <| zT (oSt sh30) <| zT (oSt sh30) <| zM <| zZ) ?_
  have bn10 : IOk (ofZ w0) w0 82 := (iok_eqz hw0.symm (iok_mul (k := 82) (iok_fdiv (k := 74) bn9 hd0 (by decide)) hn0 (by decide)))
  refine kx [] [(20, some (bx (encA31 (A9.mk (ofZ w0) (RInt.mk false []) (RInt.mk false []) (RInt.mk false []) (RInt.mk false []) (RInt.mk false []) (RInt.mk false []) (RInt.mk false []) (RInt.mk false [])))))] (zM <| zR (oLa sh30) <| zE (oFr fo67_0) <| zR (oLa sh30) <| zE (oCl (by have h := s_mul (iok_fdiv (k := 74) bn9 hd0 (by decide)) hn0 (by decide) (by decide); rw [hw0] at h; exact h)) <| zE (oXr ar32 0) <| zT (oSt sh30) <| zZ) ?_
  refine kx [(69, (vin 1))] [] (zE (oAd 1 (hr := by decide)) <| zM <| zZ) ?_
  refine pwp_again (SimImp.refl _) ?_
  refine pwp_seq <| kx [(70, (vb true))] [] (zE (oBk true oLt) <| zZ) ?_
  refine pwp_seq <| pwp_cond (b := true) (by kernel_rfl) (fun _ => ?_) (fun h => by cases h)
  refine pwp_skip <| pwp_seq <| pwp_block <| pwp_seq <| kx [(15, (vin 1))] [] (zM <| zM <| zZ) ?_
  refine pwp_seq <| kx [(16, (.ref 24 0))] [(24, some (bx (encR (RRat.mk (ofZ n1) (ofZ d1)))))] (zM <| zM <| zE (oQu 0 (hr := by decide)) <| zE (oXs el76 0) <| zE (oC1 sh82) <| zM <| zE (oRe 1 (hr := by decide)) <| zE (oXs el82 1) <| zE (oCa sh67) <| zN (oAl 24 ze67 zo67) <| zT (oSt sh67) <| zZ) ?_
  refine pwp_seq <| kx [(17, (.ref 25 0))] [(25, some (bx (encI (ofZ (e8.fdiv d1))))), (26, none)] (zR (oLa sh30) <| zE (oFr fo67_1) <| zR (oLa sh30) <| zE (oCl (s_divide bn9 hd1 (by decide) (by decide) (by omega))) <| zM <| zE oEx <| zE oEx <| zE oEx <| zN (oAl 25 ze30 zo30) <| zN (oAl 26 ze30 zo30) <| zT (oSt sh30) <| zT (oSt sh30) <| zM <| zZ) ?_
  have bn11 : IOk (ofZ w1) w1 82 := (iok_eqz hw1.symm (iok_mul (k := 82) (iok_fdiv (k := 74) bn9 hd1 (by decide)) hn1 (by decide)))
  refine kx [] [(20, some y2)] (zM <| zR (oLa sh30) <| zE (oFr fo67_0) <| zR (oLa sh30) <| zE (oCl (by have h := s_mul (iok_fdiv (k := 74) bn9 hd1 (by decide)) hn1 (by decide) (by decide); rw [hw1] at h; exact h)) <| zE (oXr ar32 1) <| zT (oSt sh30) <| zZ) ?_
  refine pwp_sim (wk (l := [(0, (vl 82 1 enc_sl_82 [y4, y5, y6])), (2, (.ref 0 0)), (9, (.ref 10 0)), (14, (.ref 20 0)), (69, (vin 1))]) (b := [(0, some y1), (10, some (bx (encI (ofZ e8)))), (20, some y2)])) ?_
  refine kx [(69, (vin 2))] [] (zE (oAd 2 (hr := by decide)) <| zM <| zZ) ?_
  refine pwp_again (SimImp.refl _) ?_
  refine pwp_seq <| kx [(70, (vb true))] [] (zE (oBk true oLt) <| zZ) ?_
  refine pwp_seq <| pwp_cond (b := true) (by kernel_rfl) (fun _ => ?_) (fun h => by cases h)
  refine pwp_skip <| pwp_seq <| pwp_block <| pwp_seq <| kx [(15, (vin 2))] [] (zM <| zM <| zZ) ?_
  refine pwp_seq <| kx [(16, (.ref 27 0))] [(27, some (bx (encR (RRat.mk (ofZ n2) (ofZ d2)))))] (zM <| zM <| zE (oQu 0 (hr := by decide)) <| zE (oXs el76 0) <| zE (oC1 sh82) <| zM <| zE (oRe 2 (hr := by decide)) <| zE (oXs el82 2) <| zE (oCa sh67) <| zN (oAl 27 ze67 zo67) <| zT (oSt sh67) <| zZ) ?_
  refine pwp_seq <| kx [(17, (.ref 28 0))] [(28, some (bx (encI (ofZ (e8.fdiv d2))))), (29, none)] (zR (oLa sh30) <| zE (oFr fo67_1) <| zR (oLa sh30) <| zE (oCl (s_divide bn9 hd2 (by decide) (by decide) (by omega))) <| zM <| zE oEx <| zE oEx <| zE oEx <| zN (oAl 28 ze30 zo30) <| zN (oAl 29 ze30 zo30) <| zT (oSt sh30) <| zT (oSt sh30) <| zM <| zZ) ?_
  have bn12 : IOk (ofZ w2) w2 82 := (iok_eqz hw2.symm (iok_mul (k := 82) (iok_fdiv (k := 74) bn9 hd2 (by decide)) hn2 (by decide)))
  refine kx [] [(20, some (bx (encA31 (A9.mk (ofZ w0) (ofZ w1) (ofZ w2) (RInt.mk false []) (RInt.mk false []) (RInt.mk false []) (RInt.mk false []) (RInt.mk false []) (RInt.mk false [])))))] (zM <| zR (oLa sh30) <| zE (oFr fo67_0) <| zR (oLa sh30) <| zE (oCl (by have h := s_mul (iok_fdiv (k := 74) bn9 hd2 (by decide)) hn2 (by decide) (by decide); rw [hw2] at h; exact h)) <| zE (oXr ar32 2) <| zT (oSt sh30) <| zZ) ?_
  refine kx [(69, (vin 3))] [] (zE (oAd 3 (hr := by decide)) <| zM <| zZ) ?_
  refine pwp_again (SimImp.refl _) ?_
  refine pwp_seq <| kx [(70, (vb true))] [] (zE (oBk true oLt) <| zZ) ?_
  refine pwp_seq <| pwp_cond (b := true) (by kernel_rfl) (fun _ => ?_) (fun h => by cases h)
  refine pwp_skip <| pwp_seq <| pwp_block <| pwp_seq <| kx [(15, (vin 3))] [] (zM <| zM <| zZ) ?_
  refine pwp_seq <| kx [(16, (.ref 30 0))] [(30, some (bx (encR (RRat.mk (ofZ n3) (ofZ d3)))))] (zM <| zM <| zE (oQu 1 (hr := by decide)) <| zE (oXs el76 1) <| zE (oC1 sh82) <| zM <| zE (oRe 0 (hr := by decide)) <| zE (oXs el82 0) <| zE (oCa sh67) <| zN (oAl 30 ze67 zo67) <| zT (oSt sh67) <| zZ) ?_
  refine pwp_seq <| kx [(17, (.ref 31 0))] [(31, some (bx (encI (ofZ (e8.fdiv d3))))), (32, none)] (zR (oLa sh30) <| zE (oFr fo67_1) <| zR (oLa sh30) <| zE (oCl (s_divide bn9 hd3 (by decide) (by decide) (by omega))) <| zM <| zE oEx <| zE oEx <| zE oEx <| zN (oAl 31 ze30 zo30) <| zN (oAl 32 ze30 zo30) <| zT (oSt sh30) <| zT (oSt sh30) <| zM <| zZ) ?_
  have bn13 : IOk (ofZ w3) w3 82 := (iok_eqz hw3.symm (iok_mul (k := 82) (iok_fdiv (k := 74) bn9 hd3 (by decide)) hn3 (by decide)))
  refine kx [] [(20, some (bx (encA31 (A9.mk (ofZ w0) (ofZ w1) (ofZ w2) (ofZ w3) (RInt.mk false []) (RInt.mk false []) (RInt.mk false []) (RInt.mk false []) (RInt.mk false [])))))] (zM <| zR (oLa sh30) <| zE (oFr fo67_0) <| zR (oLa sh30) <| zE (oCl (by have h := s_mul (iok_fdiv (k := 74) bn9 hd3 (by decide)) hn3 (by decide) (by decide); rw [hw3] at h; exact h)) <| zE (oXr ar32 3) <| zT (oSt sh30) <| zZ) ?_
  refine kx [(69, (vin 4))] [] (zE (oAd 4 (hr := by decide)) <| zM <| zZ) ?_
  refine pwp_again (SimImp.refl _) ?_
  refine pwp_seq <| kx [(70, (vb true))] [] (zE (oBk true oLt) <| zZ) ?_
  refine pwp_seq <| pwp_cond (b := true) (by kernel_rfl) (fun _ => ?_) (fun h => by cases h)
  refine pwp_skip <| pwp_seq <| pwp_block <| pwp_seq <| pwp_sim (wk (l := [(0, (vl 82 1 enc_sl_82 [y4, y5, y6])), (2, (.ref 0 0)), (9, (.ref 10 0)), (14, (.ref 20 0)), (69, (vin 4)), (70, (vb true))]) (b := [(0, some y1), (10, some (bx (encI (ofZ e8)))), (20, some (bx (encA31 (A9.mk (ofZ w0) (ofZ w1) (ofZ w2) (ofZ w3) (RInt.mk false []) (RInt.mk false []) (RInt.mk false []) (RInt.mk false []) (RInt.mk false [])))))])) ?_
  refine kx [(15, (vin 4))] [] (zM <| zM <| zZ) ?_
  refine pwp_seq <| kx [(16, (.ref 33 0))] [(33, some (bx (encR (RRat.mk (ofZ n4) (ofZ d4)))))] (zM <| zM <| zE (oQu 1 (hr := by decide)) <| zE (oXs el76 1) <| zE (oC1 sh82) <| zM <| zE (oRe 1 (hr := by decide)) <| zE (oXs el82 1) <| zE (oCa sh67) <| zN (oAl 33 ze67 zo67) <| zT (oSt sh67) <| zZ) ?_
  refine pwp_seq <| kx [(17, (.ref 34 0))] [(34, some (bx (encI (ofZ (e8.fdiv d4))))), (35, none)] (zR (oLa sh30) <| zE (oFr fo67_1) <| zR (oLa sh30) <| zE (oCl (s_divide bn9 hd4 (by decide) (by decide) (by omega))) <| zM <| zE oEx <| zE oEx <| zE oEx <| zN (oAl 34 ze30 zo30) <| zN (oAl 35 ze30 zo30) <| zT (oSt sh30) <| zT (oSt sh30) <| zM <| zZ) ?_
  have bn14 : IOk (ofZ w4) w4 82 := (iok_eqz hw4.symm (iok_mul (k := 82) (iok_fdiv (k := 74) bn9 hd4 (by decide)) hn4 (by decide)))
  refine kx [] [(20, some (bx (encA31 (A9.mk (ofZ w0) (ofZ w1) (ofZ w2) (ofZ w3) (ofZ w4) (RInt.mk false []) (RInt.mk false []) (RInt.mk false []) (RInt.mk false [])))))] (zM <| zR (oLa sh30) <| zE (oFr fo67_0) <| zR (oLa sh30) <| zE (oCl (by have h := s_mul (iok_fdiv (k := 74) bn9 hd4 (by decide)) hn4 (by decide) (by decide); rw [hw4] at h; exact h)) <| zE (oXr ar32 4) <| zT (oSt sh30) <| zZ) ?_
  refine kx [(69, (vin 5))] [] (zE (oAd 5 (hr := by decide)) <| zM <| zZ) ?_
  refine pwp_again (SimImp.refl _) ?_
  refine pwp_seq <| kx [(70, (vb true))] [] (zE (oBk true oLt) <| zZ) ?_
  refine pwp_seq <| pwp_cond (b := true) (by kernel_rfl) (fun _ => ?_) (fun h => by cases h)
  refine pwp_skip <| pwp_seq <| pwp_block <| pwp_seq <| kx [(15, (vin 5))] [] (zM <| zM <| zZ) ?_
  refine pwp_seq <| kx [(16, (.ref 36 0))] [(36, some (bx (encR (RRat.mk (ofZ n5) (ofZ d5)))))] (zM <| zM <| zE (oQu 1 (hr := by decide)) <| zE (oXs el76 1) <| zE (oC1 sh82) <| zM <| zE (oRe 2 (hr := by decide)) <| zE (oXs el82 2) <| zE (oCa sh67) <| zN (oAl 36 ze67 zo67) <| zT (oSt sh67) <| zZ) ?_
  refine pwp_seq <| kx [(17, (.ref 37 0))] [(37, some (bx (encI (ofZ (e8.fdiv d5))))), (38, none)] (zR (oLa sh30) <| zE (oFr fo67_1) <| zR (oLa sh30) <| zE (oCl (s_divide bn9 hd5 (by decide) (by decide) (by omega))) <| zM <| zE oEx <| zE oEx <| zE oEx <| zN (oAl 37 ze30 zo30) <| zN (oAl 38 ze30 zo30) <| zT (oSt sh30) <| zT (oSt sh30) <| zM <| zZ) ?_
  have bn15 : IOk (ofZ w5) w5 82 := (iok_eqz hw5.symm (iok_mul (k := 82) (iok_fdiv (k := 74) bn9 hd5 (by decide)) hn5 (by decide)))
  refine kx [] [(20, some (bx (encA31 (A9.mk (ofZ w0) (ofZ w1) (ofZ w2) (ofZ w3) (ofZ w4) (ofZ w5) (RInt.mk false []) (RInt.mk false []) (RInt.mk false [])))))] (zM <| zR (oLa sh30) <| zE (oFr fo67_0) <| zR (oLa sh30) <| zE (oCl (by have h := s_mul (iok_fdiv (k := 74) bn9 hd5 (by decide)) hn5 (by decide) (by decide); rw [hw5] at h; exact h)) <| zE (oXr ar32 5) <| zT (oSt sh30) <| zZ) ?_
  refine kx [(69, (vin 6))] [] (zE (oAd 6 (hr := by decide)) <| zM <| zZ) ?_
  refine pwp_again (SimImp.refl _) ?_
  refine pwp_seq <| kx [(70, (vb true))] [] (zE (oBk true oLt) <| zZ) ?_
  refine pwp_seq <| pwp_cond (b := true) (by kernel_rfl) (fun _ => ?_) (fun h => by cases h)
  refine pwp_skip <| pwp_seq <| pwp_block <| pwp_seq <| kx [(15, (vin 6))] [] (zM <| zM <| zZ) ?_
  refine pwp_seq <| kx [(16, (.ref 39 0))] [(39, some (bx (encR (RRat.mk (ofZ n6) (ofZ d6)))))] (zM <| zM <| zE (oQu 2 (hr := by decide)) <| zE (oXs el76 2) <| zE (oC1 sh82) <| zM <| zE (oRe 0 (hr := by decide)) <| zE (oXs el82 0) <| zE (oCa sh67) <| zN (oAl 39 ze67 zo67) <| zT (oSt sh67) <| zZ) ?_
  refine pwp_seq <| pwp_sim (wk (l := [(0, (vl 82 1 enc_sl_82 [y4, y5, y6])), (2, (.ref 0 0)), (9, (.ref 10 0)), (14, (.ref 20 0)), (15, (vin 6)), (16, (.ref 39 0)), (69, (vin 6))]) (b := [(0, some y1), (10, some (bx (encI (ofZ e8)))), (20, some (bx (encA31 (A9.mk (ofZ w0) (ofZ w1) (ofZ w2) (ofZ w3) (ofZ w4) (ofZ w5) (RInt.mk false []) (RInt.mk false []) (RInt.mk false []))))), (39, some (bx (encR (RRat.mk (ofZ n6) (ofZ d6)))))])) ?_
  refine kx [(17, (.ref 40 0))] [(40, some (bx (encI (ofZ (e8.fdiv d6))))), (41, none)] (zR (oLa sh30) <| zE (oFr fo67_1) <| zR (oLa sh30) <| zE (oCl (s_divide bn9 hd6 (by decide) (by decide) (by omega))) <| zM <| zE oEx <| zE oEx <| zE oEx <| zN (oAl 40 ze30 zo30) <| zN (oAl 41 ze30 zo30) <| zT (oSt sh30) <| zT (oSt sh30) <| zM <| zZ) ?_
  have bn16 : IOk (ofZ w6) w6 82 := (iok_eqz hw6.symm (iok_mul (k := 82) (iok_fdiv (k := 74) bn9 hd6 (by decide)) hn6 (by decide)))
  refine kx [] [(20, some (bx (encA31 (A9.mk (ofZ w0) (ofZ w1) (ofZ w2) (ofZ w3) (ofZ w4) (ofZ w5) (ofZ w6) (RInt.mk false []) (RInt.mk false [])))))] (zM <| zR (oLa sh30) <| zE (oFr fo67_0) <| zR (oLa sh30) <| zE (oCl (by have h := s_mul (iok_fdiv (k := 74) bn9 hd6 (by decide)) hn6 (by decide) (by decide); rw [hw6] at h; exact h)) <| zE (oXr ar32 6) <| zT (oSt sh30) <| zZ) ?_
  refine kx [(69, (vin 7))] [] (zE (oAd 7 (hr := by decide)) <| zM <| zZ) ?_
  refine pwp_again (SimImp.refl _) ?_
  refine pwp_seq <| kx [(70, (vb true))] [] (zE (oBk true oLt) <| zZ) ?_
  refine pwp_seq <| pwp_cond (b := true) (by kernel_rfl) (fun _ => ?_) (fun h => by cases h)
  refine pwp_skip <| pwp_seq <| pwp_block <| pwp_seq <| kx [(15, (vin 7))] [] (zM <| zM <| zZ) ?_
  refine pwp_seq <| kx [(16, (.ref 42 0))] [(42, some (bx (encR (RRat.mk (ofZ n7) (ofZ d7)))))] (zM <| zM <| zE (oQu 2 (hr := by decide)) <| zE (oXs el76 2) <| zE (oC1 sh82) <| zM <| zE (oRe 1 (hr := by decide)) <| zE (oXs el82 1) <| zE (oCa sh67) <| zN (oAl 42 ze67 zo67) <| zT (oSt sh67) <| zZ) ?_
  refine pwp_seq <| kx [(17, (.ref 43 0))] [(43, some (bx (encI (ofZ (e8.fdiv d7))))), (44, none)] (zR (oLa sh30) <| zE (oFr fo67_1) <| zR (oLa sh30) <| zE (oCl (s_divide bn9 hd7 (by decide) (by decide) (by omega))) <| zM <| zE oEx <| zE oEx <| zE oEx <| zN (oAl 43 ze30 zo30) <| zN (oAl 44 ze30 zo30) <| zT (oSt sh30) <| zT (oSt sh30) <| zM <| zZ) ?_
  have bn17 : IOk (ofZ w7) w7 82 := (iok_eqz hw7.symm (iok_mul (k := 82) (iok_fdiv (k := 74) bn9 hd7 (by decide)) hn7 (by decide)))
  refine kx [] [(20, some (bx (encA31 (A9.mk (ofZ w0) (ofZ w1) (ofZ w2) (ofZ w3) (ofZ w4) (ofZ w5) (ofZ w6) (ofZ w7) (RInt.mk false [])))))] (zM <| zR (oLa sh30) <| zE (oFr fo67_0) <| zR (oLa sh30) <| zE (oCl (by have h := s_mul (iok_fdiv (k := 74) bn9 hd7 (by decide)) hn7 (by decide) (by decide); rw [hw7] at h; exact h)) <| zE (oXr ar32 7) <| zT (oSt sh30) <| zZ) ?_
  refine kx [(69, (vin 8))] [] (zE (oAd 8 (hr := by decide)) <| zM <| zZ) ?_
  refine pwp_again (SimImp.refl _) ?_
  refine pwp_seq <| kx [(70, (vb true))] [] (zE (oBk true oLt) <| zZ) ?_
  refine pwp_seq <| pwp_cond (b := true) (by kernel_rfl) (fun _ => ?_) (fun h => by cases h)
  refine pwp_skip <| pwp_seq <| pwp_block <| pwp_seq <| kx [(15, (vin 8))] [] (zM <| zM <| zZ) ?_
  refine pwp_seq <| kx [(16, (.ref 45 0))] [(45, some (bx (encR (RRat.mk (ofZ n8) (ofZ d8)))))] (zM <| zM <| zE (oQu 2 (hr := by decide)) <| zE (oXs el76 2) <| zE (oC1 sh82) <| zM <| zE (oRe 2 (hr := by decide)) <| zE (oXs el82 2) <| zE (oCa sh67) <| zN (oAl 45 ze67 zo67) <| zT (oSt sh67) <| zZ) ?_
  refine pwp_seq <| kx [(17, (.ref 46 0))] [(46, some (bx (encI (ofZ (e8.fdiv d8))))), (47, none)] (zR (oLa sh30) <| zE (oFr fo67_1) <| zR (oLa sh30) <| zE (oCl (s_divide bn9 hd8 (by decide) (by decide) (by omega))) <| zM <| zE oEx <| zE oEx <| zE oEx <| zN (oAl 46 ze30 zo30) <| zN (oAl 47 ze30 zo30) <| zT (oSt sh30) <| zT (oSt sh30) <| zM <| zZ) ?_
  have bn18 : IOk (ofZ w8) w8 82 := (iok_eqz hw8.symm (iok_mul (k := 82) (iok_fdiv (k := 74) bn9 hd8 (by decide)) hn8 (by decide)))
  refine kx [] [(20, some (bx (encA31 y3)))] (zM <| zR (oLa sh30) <| zE (oFr fo67_0) <| zR (oLa sh30) <| zE (oCl (by have h := s_mul (iok_fdiv (k := 74) bn9 hd8 (by decide)) hn8 (by decide) (by decide); rw [hw8] at h; exact h)) <| zE (oXr ar32 8) <| zT (oSt sh30) <| zZ) ?_
  refine pwp_sim (wk (l := [(0, (vl 82 1 enc_sl_82 [y4, y5, y6])), (2, (.ref 0 0)), (9, (.ref 10 0)), (14, (.ref 20 0)), (69, (vin 8))]) (b := [(0, some y1), (10, some (bx (encI (ofZ e8)))), (20, some (bx (encA31 y3)))])) ?_
  refine kx [(69, (vin 9))] [] (zE (oAd 9 (hr := by decide)) <| zM <| zZ) ?_
  refine pwp_again (SimImp.refl _) ?_
  refine pwp_seq <| kx [(70, (vb false))] [] (zE (oBk false oLt) <| zZ) ?_
  refine pwp_seq <| pwp_cond (b := false) (by kernel_rfl) (fun h => by cases h) (fun _ => ?_)
  refine pwp_exit <| pwp_seq <| pwp_seq ?_
  have bn19 : IOk (ofZ (det3 w0 w1 w2 w3 w4 w5 w6 w7 w8)) (det3 w0 w1 w2 w3 w4 w5 w6 w7 w8) 249 := (iok_det3 (n := 82) (k := 249) bn10 bn11 bn12 bn13 bn14 bn15 bn16 bn17 bn18 (by decide))
  refine kd [(104, (vb false))] [] mo (wR (oLa sh32) <| wE (oCl (d_row0 y3 w0 w1 w2 w3 w4 w5 w6 w7 w8 (iu bn10) (iu bn11) (iu bn12) (iu bn13) (iu bn14) (iu bn15) (iu bn16) (iu bn17) (iu bn18))) <| wR (oLa sh32) <| wE (oCl (d_row1 y3 w0 w1 w2 w3 w4 w5 w6 w7 w8 (iu bn10) (iu bn11) (iu bn12) (iu bn13) (iu bn14) (iu bn15) (iu bn16) (iu bn17) (iu bn18))) <| wR (oLa sh32) <| wE (oCl (d_row2 y3 w0 w1 w2 w3 w4 w5 w6 w7 w8 (iu bn10) (iu bn11) (iu bn12) (iu bn13) (iu bn14) (iu bn15) (iu bn16) (iu bn17) (iu bn18))) <| wE (oCl (d_det (A3.mk (ofZ w0) (ofZ w1) (ofZ w2)) w0 w1 w2 (iu bn10) (iu bn11) (iu bn12) (A3.mk (ofZ w3) (ofZ w4) (ofZ w5)) w3 w4 w5 (iu bn13) (iu bn14) (iu bn15) (A3.mk (ofZ w6) (ofZ w7) (ofZ w8)) w6 w7 w8 (iu bn16) (iu bn17) (iu bn18))) <| wE (oCl (s_sign bn19 (by decide))) <| wE (oBk false oEq (by exact beq_eq_false_iff_ne.2 hd)) <| wZ) ?_
  refine pwp_cond (b := false) (by kernel_rfl) (fun h => by cases h) (fun _ => ?_)
  refine pwp_skip <| pwp_seq ?_
  have bn20 : ∀ c ∈ [c0, c1, c2, c3, c4, c5, c6, c7, c8], IOk (ofZ c) c 82 := red_iok (n := 82) (.cons bn10 (.cons bn11 (.cons bn12 (.cons bn13 (.cons bn14 (.cons bn15 (.cons bn16 (.cons bn17 (.cons bn18 .nil))))))))) hc
  refine kx [(3, (vin 0))] [(0, some (bx (encA31 (A9.mk (ofZ c0) (ofZ c1) (ofZ c2) (ofZ c3) (ofZ c4) (ofZ c5) (ofZ c6) (ofZ c7) (ofZ c8)))))] (zR (oLa sh32) <| zE (oCl (d_red9 w0 w1 w2 w3 w4 w5 w6 w7 w8 (iu bn10) (iu bn11) (iu bn12) (iu bn13) (iu bn14) (iu bn15) (iu bn16) (iu bn17) (iu bn18) c0 c1 c2 c3 c4 c5 c6 c7 c8 hc hnz)) <| zT (oSt sh32) <| zM <| zZ) ?_
  refine pwp_ret ⟨_, (res_a (cs := (bx (encA31 (A9.mk (ofZ c0) (ofZ c1) (ofZ c2) (ofZ c3) (ofZ c4) (ofZ c5) (ofZ c6) (ofZ c7) (ofZ c8))))) (d := (encA31 (A9.mk (ofZ c0) (ofZ c1) (ofZ c2) (ofZ c3) (ofZ c4) (ofZ c5) (ofZ c6) (ofZ c7) (ofZ c8)))) rfl rfl sh32 rfl rfl (.tmp (d := (.val (.int .i64 (((0 : Nat) : Int))))) rfl .nil)), ?_⟩
  rfl
theorem d_ofS (n0 d0 n1 d1 n2 d2 n3 d3 n4 d4 n5 d5 n6 d6 n7 d7 n8 d8 : Int) (hn0 : IOk (ofZ n0) n0 8) (hd0 : IOk (ofZ d0) d0 8) (hn1 : IOk (ofZ n1) n1 8) (hd1 : IOk (ofZ d1) d1 8) (hn2 : IOk (ofZ n2) n2 8) (hd2 : IOk (ofZ d2) d2 8) (hn3 : IOk (ofZ n3) n3 8) (hd3 : IOk (ofZ d3) d3 8) (hn4 : IOk (ofZ n4) n4 8) (hd4 : IOk (ofZ d4) d4 8) (hn5 : IOk (ofZ n5) n5 8) (hd5 : IOk (ofZ d5) d5 8) (hn6 : IOk (ofZ n6) n6 8) (hd6 : IOk (ofZ d6) d6 8) (hn7 : IOk (ofZ n7) n7 8) (hd7 : IOk (ofZ d7) d7 8) (hn8 : IOk (ofZ n8) n8 8) (hd8 : IOk (ofZ d8) d8 8) (hm : MatOk 8 [[(RRat.mk (ofZ n0) (ofZ d0)), (RRat.mk (ofZ n1) (ofZ d1)), (RRat.mk (ofZ n2) (ofZ d2))], [(RRat.mk (ofZ n3) (ofZ d3)), (RRat.mk (ofZ n4) (ofZ d4)), (RRat.mk (ofZ n5) (ofZ d5))], [(RRat.mk (ofZ n6) (ofZ d6)), (RRat.mk (ofZ n7) (ofZ d7)), (RRat.mk (ofZ n8) (ofZ d8))]]) (e0 : Int) (he0 : (1 * d0) = e0) (e1 : Int) (he1 : (e0 * d1) = e1) (e2 : Int) (he2 : (e1 * d2) = e2) (e3 : Int) (he3 : (e2 * d3) = e3) (e4 : Int) (he4 : (e3 * d4) = e4) (e5 : Int) (he5 : (e4 * d5) = e5) (e6 : Int) (he6 : (e5 * d6) = e6) (e7 : Int) (he7 : (e6 * d7) = e7) (e8 : Int) (he8 : (e7 * d8) = e8) (w0 : Int) (hw0 : ((e8.fdiv d0) * n0) = w0) (w1 : Int) (hw1 : ((e8.fdiv d1) * n1) = w1) (w2 : Int) (hw2 : ((e8.fdiv d2) * n2) = w2) (w3 : Int) (hw3 : ((e8.fdiv d3) * n3) = w3) (w4 : Int) (hw4 : ((e8.fdiv d4) * n4) = w4) (w5 : Int) (hw5 : ((e8.fdiv d5) * n5) = w5) (w6 : Int) (hw6 : ((e8.fdiv d6) * n6) = w6) (w7 : Int) (hw7 : ((e8.fdiv d7) * n7) = w7) (w8 : Int) (hw8 : ((e8.fdiv d8) * n8) = w8) (hv0 : validR (RRat.mk (ofZ n0) (ofZ d0)) = true) (hv1 : validR (RRat.mk (ofZ n1) (ofZ d1)) = true) (hv2 : validR (RRat.mk (ofZ n2) (ofZ d2)) = true) (hv3 : validR (RRat.mk (ofZ n3) (ofZ d3)) = true) (hv4 : validR (RRat.mk (ofZ n4) (ofZ d4)) = true) (hv5 : validR (RRat.mk (ofZ n5) (ofZ d5)) = true) (hv6 : validR (RRat.mk (ofZ n6) (ofZ d6)) = true) (hv7 : validR (RRat.mk (ofZ n7) (ofZ d7)) = true) (hv8 : validR (RRat.mk (ofZ n8) (ofZ d8)) = true) (hz0 : d0 ≠ 0) (hz1 : d1 ≠ 0) (hz2 : d2 ≠ 0) (hz3 : d3 ≠ 0) (hz4 : d4 ≠ 0) (hz5 : d5 ≠ 0) (hz6 : d6 ≠ 0) (hz7 : d7 ≠ 0) (hz8 : d8 ≠ 0) (hd : signI (det3 w0 w1 w2 w3 w4 w5 w6 w7 w8) = 0) : Takes Tryz.prog 42 [(.sl 82 1 (List.map enc_sl_82 [[(RRat.mk (ofZ n0) (ofZ d0)), (RRat.mk (ofZ n1) (ofZ d1)), (RRat.mk (ofZ n2) (ofZ d2))], [(RRat.mk (ofZ n3) (ofZ d3)), (RRat.mk (ofZ n4) (ofZ d4)), (RRat.mk (ofZ n5) (ofZ d5))], [(RRat.mk (ofZ n6) (ofZ d6)), (RRat.mk (ofZ n7) (ofZ d7)), (RRat.mk (ofZ n8) (ofZ d8))]]))] (.tup [(encA31 (A9.mk (RInt.mk false []) (RInt.mk false []) (RInt.mk false []) (RInt.mk false []) (RInt.mk false []) (RInt.mk false []) (RInt.mk false []) (RInt.mk false []) (RInt.mk false []))), (.val (.int .i64 (14)))]) := by
  let y6 := [(RRat.mk (ofZ n6) (ofZ d6)), (RRat.mk (ofZ n7) (ofZ d7)), (RRat.mk (ofZ n8) (ofZ d8))]
  let y5 := [(RRat.mk (ofZ n3) (ofZ d3)), (RRat.mk (ofZ n4) (ofZ d4)), (RRat.mk (ofZ n5) (ofZ d5))]
  let y4 := [(RRat.mk (ofZ n0) (ofZ d0)), (RRat.mk (ofZ n1) (ofZ d1)), (RRat.mk (ofZ n2) (ofZ d2))]
  let y3 := (A9.mk (ofZ w0) (ofZ w1) (ofZ w2) (ofZ w3) (ofZ w4) (ofZ w5) (ofZ w6) (ofZ w7) (ofZ w8))
  let y2 := (bx (encA31 (A9.mk (ofZ w0) (ofZ w1) (RInt.mk false []) (RInt.mk false []) (RInt.mk false []) (RInt.mk false []) (RInt.mk false []) (RInt.mk false []) (RInt.mk false []))))
  let y1 := (bx (encA31 (A9.mk (RInt.mk false []) (RInt.mk false []) (RInt.mk false []) (RInt.mk false []) (RInt.mk false []) (RInt.mk false []) (RInt.mk false []) (RInt.mk false []) (RInt.mk false []))))
  refine fn_intro Tryz.func42 rfl cb42 rfl ?_
  show PWp _ _ _ _ ⟨[(0, (vl 82 1 enc_sl_82 [y4, y5, y6]))], []⟩
  refine pwp_seq <| kx [(2, (.ref 0 0))] [(0, some y1)] (zN (oAl 0 ze32 zo32) <| zM <| zZ) ?_
  refine pwp_seq <| kx [(4, (vb true))] [] (zM <| zE (oLn el76 3 (hr := rfl)) <| zE oEq <| zM <| zZ) ?_
  refine pwp_seq <| pwp_seq <| kx [(23, (vl 82 1 enc_sl_82 [y4, y5, y6])), (24, (vin 3)), (25, (vin 0))] [] (zM <| zE (oLn el76 3 (hr := rfl)) <| zM <| zZ) ?_
  refine pwp_block <| pwp_rounds 20 ?_
  refine pwp_round <| pwp_seq <| kx [(26, (vb true))] [] (zE (oBk true oLt) <| zZ) ?_
  refine pwp_seq <| pwp_cond (b := true) (by kernel_rfl) (fun _ => ?_) (fun h => by cases h)
  refine pwp_skip <| pwp_seq <| pwp_block <| pwp_seq <| kx [(6, (vl 67 4 encR y4))] [] (zE (oXs el76 0) <| zE (oC1 sh82) <| zM <| zZ) ?_
  refine pwp_seq <| kx [(4, (vb true))] [] (zM <| zM <| zM <| zE (oLn el82 3 (hr := rfl)) <| zE oEq <| zE oPt <| zM <| zZ) ?_
  refine pwp_seq <| kx [(35, (vl 67 4 encR y4)), (36, (vin 3)), (37, (vin 0))] [] (zM <| zE (oLn el82 3 (hr := rfl)) <| zM <| zZ) ?_
  refine pwp_block <| pwp_rounds 20 ?_
  refine pwp_round <| pwp_seq <| kx [(38, (vb true))] [] (zE (oBk true oLt) <| zZ) ?_
  refine pwp_seq <| pwp_cond (b := true) (by kernel_rfl) (fun _ => ?_) (fun h => by cases h)
  refine pwp_skip <| pwp_seq <| pwp_block <| pwp_seq <| kx [(8, (.ref 1 0))] [(1, some (bx (encR (RRat.mk (ofZ n0) (ofZ d0)))))] (zE (oXs el82 0) <| zE (oCa sh67) <| zN (oAl 1 ze67 zo67) <| zT (oSt sh67) <| zZ) ?_
  refine pwp_seq <| kx [(43, (vb false))] [] (zR (oLa sh67) <| zE (oBk true (oCl (f_valid (RRat.mk (ofZ n0) (ofZ d0)) (toQ (RRat.mk (ofZ n0) (ofZ d0))) (qok_up (qok_raw (n := 8) (by decide) hn0.l hd0.l) (by decide)))) (by exact hv0)) <| zE oNt <| zZ) ?_
  refine pwp_cond (b := false) (by kernel_rfl) (fun h => by cases h) (fun _ => ?_)
  refine pwp_skip <| kx [(37, (vin 1))] [] (zE (oAd 1 (hr := by decide)) <| zM <| zZ) ?_
  refine pwp_again (SimImp.refl _) ?_
  refine pwp_seq <| kx [(38, (vb true))] [] (zE (oBk true oLt) <| zZ) ?_
  refine pwp_seq <| pwp_cond (b := true) (by kernel_rfl) (fun _ => ?_) (fun h => by cases h)
  refine pwp_skip <| pwp_seq <| pwp_block <| pwp_seq <| kx [(8, (.ref 2 0))] [(2, some (bx (encR (RRat.mk (ofZ n1) (ofZ d1)))))] (zE (oXs el82 1) <| zE (oCa sh67) <| zN (oAl 2 ze67 zo67) <| zT (oSt sh67) <| zZ) ?_
  refine pwp_seq <| kx [(43, (vb false))] [] (zR (oLa sh67) <| zE (oBk true (oCl (f_valid (RRat.mk (ofZ n1) (ofZ d1)) (toQ (RRat.mk (ofZ n1) (ofZ d1))) (qok_up (qok_raw (n := 8) (by decide) hn1.l hd1.l) (by decide)))) (by exact hv1)) <| zE oNt <| zZ) ?_
  refine pwp_cond (b := false) (by kernel_rfl) (fun h => by cases h) (fun _ => ?_)
  refine pwp_skip <| pwp_sim (wk (l := [(0, (vl 82 1 enc_sl_82 [y4, y5, y6])), (2, (.ref 0 0)), (4, (vb true)), (23, (vl 82 1 enc_sl_82 [y4, y5, y6])), (24, (vin 3)), (25, (vin 0)), (35, (vl 67 4 encR y4)), (36, (vin 3)), (37, (vin 1)), (43, (vb false))]) (b := [(0, some y1)])) ?_
  refine kx [(37, (vin 2))] [] (zE (oAd 2 (hr := by decide)) <| zM <| zZ) ?_
  refine pwp_again (SimImp.refl _) ?_
  refine pwp_seq <| kx [(38, (vb true))] [] (zE (oBk true oLt) <| zZ) ?_
  refine pwp_seq <| pwp_cond (b := true) (by kernel_rfl) (fun _ => ?_) (fun h => by cases h)
  refine pwp_skip <| pwp_seq <| pwp_block <| pwp_seq <| kx [(8, (.ref 3 0))] [(3, some (bx (encR (RRat.mk (ofZ n2) (ofZ d2)))))] (zE (oXs el82 2) <| zE (oCa sh67) <| zN (oAl 3 ze67 zo67) <| zT (oSt sh67) <| zZ) ?_
  refine pwp_seq <| kx [(43, (vb false))] [] (zR (oLa sh67) <| zE (oBk true (oCl (f_valid (RRat.mk (ofZ n2) (ofZ d2)) (toQ (RRat.mk (ofZ n2) (ofZ d2))) (qok_up (qok_raw (n := 8) (by decide) hn2.l hd2.l) (by decide)))) (by exact hv2)) <| zE oNt <| zZ) ?_
  refine pwp_cond (b := false) (by kernel_rfl) (fun h => by cases h) (fun _ => ?_)
  refine pwp_skip <| kx [(37, (vin 3))] [] (zE (oAd 3 (hr := by decide)) <| zM <| zZ) ?_
  refine pwp_again (SimImp.refl _) ?_
  refine pwp_seq <| kx [(38, (vb false))] [] (zE (oBk false oLt) <| zZ) ?_
  refine pwp_seq <| pwp_cond (b := false) (by kernel_rfl) (fun h => by cases h) (fun _ => ?_)
  refine pwp_exit <| kx [(25, (vin 1))] [] (zE (oAd 1 (hr := by decide)) <| zM <| zZ) ?_
  refine pwp_again (SimImp.refl _) ?_
  refine pwp_seq <| kx [(26, (vb true))] [] (zE (oBk true oLt) <| zZ) ?_
  refine pwp_seq <| pwp_cond (b := true) (by kernel_rfl) (fun _ => ?_) (fun h => by cases h)
  refine pwp_skip <| pwp_seq <| pwp_block <| pwp_seq <| kx [(6, (vl 67 4 encR y5))] [] (zE (oXs el76 1) <| zE (oC1 sh82) <| zM <| zZ) ?_
  refine pwp_seq <| kx [(4, (vb true))] [] (zM <| zM <| zM <| zE (oLn el82 3 (hr := rfl)) <| zE oEq <| zE oPt <| zM <| zZ) ?_
  refine pwp_seq <| kx [(35, (vl 67 4 encR y5)), (36, (vin 3)), (37, (vin 0))] [] (zM <| zE (oLn el82 3 (hr := rfl)) <| zM <| zZ) ?_
  refine pwp_block <| pwp_rounds 20 ?_
  refine pwp_round <| pwp_seq <| kx [(38, (vb true))] [] (zE (oBk true oLt) <| zZ) ?_
  refine pwp_seq <| pwp_cond (b := true) (by kernel_rfl) (fun _ => ?_) (fun h => by cases h)
  refine pwp_skip <| pwp_seq <| pwp_block <| pwp_seq <| kx [(8, (.ref 4 0))] [(4, some (bx (encR (RRat.mk (ofZ n3) (ofZ d3)))))] (zE (oXs el82 0) <| zE (oCa sh67) <| zN (oAl 4 ze67 zo67) <| zT (oSt sh67) <| zZ) ?_
  refine pwp_seq <| kx [(43, (vb false))] [] (zR (oLa sh67) <| zE (oBk true (oCl (f_valid (RRat.mk (ofZ n3) (ofZ d3)) (toQ (RRat.mk (ofZ n3) (ofZ d3))) (qok_up (qok_raw (n := 8) (by decide) hn3.l hd3.l) (by decide)))) (by exact hv3)) <| zE oNt <| zZ) ?_
  refine pwp_cond (b := false) (by kernel_rfl) (fun h => by cases h) (fun _ => ?_)
  refine pwp_skip <| pwp_sim (wk (l := [(0, (vl 82 1 enc_sl_82 [y4, y5, y6])), (2, (.ref 0 0)), (4, (vb true)), (23, (vl 82 1 enc_sl_82 [y4, y5, y6])), (24, (vin 3)), (25, (vin 1)), (35, (vl 67 4 encR y5)), (36, (vin 3)), (37, (vin 0)), (43, (vb false))]) (b := [(0, some y1)])) ?_
  refine kx [(37, (vin 1))] [] (zE (oAd 1 (hr := by decide)) <| zM <| zZ) ?_
  refine pwp_again (SimImp.refl _) ?_
  refine pwp_seq <| kx [(38, (vb true))] [] (zE (oBk true oLt) <| zZ) ?_
  refine pwp_seq <| pwp_cond (b := true) (by kernel_rfl) (fun _ => ?_) (fun h => by cases h)
  refine pwp_skip <| pwp_seq <| pwp_block <| pwp_seq <| kx [(8, (.ref 5 0))] [(5, some (bx (encR (RRat.mk (ofZ n4) (ofZ d4)))))] (zE (oXs el82 1) <| zE (oCa sh67) <| zN (oAl 5 ze67 zo67) <| zT (oSt sh67) <| zZ) ?_
  refine pwp_seq <| kx [(43, (vb false))] [] (zR (oLa sh67) <| zE (oBk true (oCl (f_valid (RRat.mk (ofZ n4) (ofZ d4)) (toQ (RRat.mk (ofZ n4) (ofZ d4))) (qok_up (qok_raw (n := 8) (by decide) hn4.l hd4.l) (by decide)))) (by exact hv4)) <| zE oNt <| zZ) ?_
  refine pwp_cond (b := false) (by kernel_rfl) (fun h => by cases h) (fun _ => ?_)
  refine pwp_skip <| kx [(37, (vin 2))] [] (zE (oAd 2 (hr := by decide)) <| zM <| zZ) ?_
  refine pwp_again (SimImp.refl _) ?_
  refine pwp_seq <| kx [(38, (vb true))] [] (zE (oBk true oLt) <| zZ) ?_
  refine pwp_seq <| pwp_cond (b := true) (by kernel_rfl) (fun _ => ?_) (fun h => by cases h)
  refine pwp_skip <| pwp_seq <| pwp_block <| pwp_seq <| kx [(8, (.ref 6 0))] [(6, some (bx (encR (RRat.mk (ofZ n5) (ofZ d5)))))] (zE (oXs el82 2) <| zE (oCa sh67) <| zN (oAl 6 ze67 zo67) <| zT (oSt sh67) <| zZ) ?_
  refine pwp_seq <| kx [(43, (vb false))] [] (zR (oLa sh67) <| zE (oBk true (oCl (f_valid (RRat.mk (ofZ n5) (ofZ d5)) (toQ (RRat.mk (ofZ n5) (ofZ d5))) (qok_up (qok_raw (n := 8) (by decide) hn5.l hd5.l) (by decide)))) (by exact hv5)) <| zE oNt <| zZ) ?_
  refine pwp_cond (b := false) (by kernel_rfl) (fun h => by cases h) (fun _ => ?_)
  refine pwp_skip <| kx [(37, (vin 3))] [] (zE (oAd 3 (hr := by decide)) <| zM <| zZ) ?_
  refine pwp_again (SimImp.refl _) ?_
  refine pwp_seq <| kx [(38, (vb false))] [] (zE (oBk false oLt) <| zZ) ?_
  refine pwp_seq <| pwp_cond (b := false) (by kernel_rfl) (fun h => by cases h) (fun _ => ?_)
  refine pwp_exit <| kx [(25, (vin 2))] [] (zE (oAd 2 (hr := by decide)) <| zM <| zZ) ?_
  refine pwp_again (SimImp.refl _) ?_
  refine pwp_seq <| kx [(26, (vb true))] [] (zE (oBk true oLt) <| zZ) ?_
  refine pwp_seq <| pwp_cond (b := true) (by kernel_rfl) (fun _ => ?_) (fun h => by cases h)
  refine pwp_skip <| pwp_seq <| pwp_block <| pwp_seq <| kx [(6, (vl 67 4 encR y6))] [] (zE (oXs el76 2) <| zE (oC1 sh82) <| zM <| zZ) ?_
  refine pwp_seq <| kx [(4, (vb true))] [] (zM <| zM <| zM <| zE (oLn el82 3 (hr := rfl)) <| zE oEq <| zE oPt <| zM <| zZ) ?_
  refine pwp_seq <| pwp_sim (wk (l := [(0, (vl 82 1 enc_sl_82 [y4, y5, y6])), (2, (.ref 0 0)), (4, (vb true)), (6, (vl 67 4 encR y6)), (23, (vl 82 1 enc_sl_82 [y4, y5, y6])), (24, (vin 3)), (25, (vin 2))]) (b := [(0, some y1)])) ?_
  refine kx [(35, (vl 67 4 encR y6)), (36, (vin 3)), (37, (vin 0))] [] (zM <| zE (oLn el82 3 (hr := rfl)) <| zM <| zZ) ?_
  refine pwp_block <| pwp_rounds 20 ?_
  refine pwp_round <| pwp_seq <| kx [(38, (vb true))] [] (zE (oBk true oLt) <| zZ) ?_
  refine pwp_seq <| pwp_cond (b := true) (by kernel_rfl) (fun _ => ?_) (fun h => by cases h)
  refine pwp_skip <| pwp_seq <| pwp_block <| pwp_seq <| kx [(8, (.ref 7 0))] [(7, some (bx (encR (RRat.mk (ofZ n6) (ofZ d6)))))] (zE (oXs el82 0) <| zE (oCa sh67) <| zN (oAl 7 ze67 zo67) <| zT (oSt sh67) <| zZ) ?_
  refine pwp_seq <| kx [(43, (vb false))] [] (zR (oLa sh67) <| zE (oBk true (oCl (f_valid (RRat.mk (ofZ n6) (ofZ d6)) (toQ (RRat.mk (ofZ n6) (ofZ d6))) (qok_up (qok_raw (n := 8) (by decide) hn6.l hd6.l) (by decide)))) (by exact hv6)) <| zE oNt <| zZ) ?_
  refine pwp_cond (b := false) (by kernel_rfl) (fun h => by cases h) (fun _ => ?_)
  refine pwp_skip <| kx [(37, (vin 1))] [] (zE (oAd 1 (hr := by decide)) <| zM <| zZ) ?_
  refine pwp_again (SimImp.refl _) ?_
  refine pwp_seq <| kx [(38, (vb true))] [] (zE (oBk true oLt) <| zZ) ?_
  refine pwp_seq <| pwp_cond (b := true) (by kernel_rfl) (fun _ => ?_) (fun h => by cases h)
  refine pwp_skip <| pwp_seq <| pwp_block <| pwp_seq <| kx [(8, (.ref 8 0))] [(8, some (bx (encR (RRat.mk (ofZ n7) (ofZ d7)))))] (zE (oXs el82 1) <| zE (oCa sh67) <| zN (oAl 8 ze67 zo67) <| zT (oSt sh67) <| zZ) ?_
  refine pwp_seq <| kx [(43, (vb false))] [] (zR (oLa sh67) <| zE (oBk true (oCl (f_valid (RRat.mk (ofZ n7) (ofZ d7)) (toQ (RRat.mk (ofZ n7) (ofZ d7))) (qok_up (qok_raw (n := 8) (by decide) hn7.l hd7.l) (by decide)))) (by exact hv7)) <| zE oNt <| zZ) ?_
  refine pwp_cond (b := false) (by kernel_rfl) (fun h => by cases h) (fun _ => ?_)
  refine pwp_skip <| kx [(37, (vin 2))] [] (zE (oAd 2 (hr := by decide)) <| zM <| zZ) ?_
  refine pwp_again (SimImp.refl _) ?_
  refine pwp_seq <| kx [(38, (vb true))] [] (zE (oBk true oLt) <| zZ) ?_
  refine pwp_seq <| pwp_cond (b := true) (by kernel_rfl) (fun _ => ?_) (fun h => by cases h)
  refine pwp_skip <| pwp_seq <| pwp_block <| pwp_seq <| kx [(8, (.ref 9 0))] [(9, some (bx (encR (RRat.mk (ofZ n8) (ofZ d8)))))] (zE (oXs el82 2) <| zE (oCa sh67) <| zN (oAl 9 ze67 zo67) <| zT (oSt sh67) <| zZ) ?_
  refine pwp_seq <| kx [(43, (vb false))] [] (zR (oLa sh67) <| zE (oBk true (oCl (f_valid (RRat.mk (ofZ n8) (ofZ d8)) (toQ (RRat.mk (ofZ n8) (ofZ d8))) (qok_up (qok_raw (n := 8) (by decide) hn8.l hd8.l) (by decide)))) (by exact hv8)) <| zE oNt <| zZ) ?_
  refine pwp_cond (b := false) (by kernel_rfl) (fun h => by cases h) (fun _ => ?_)
  refine pwp_skip <| kx [(37, (vin 3))] [] (zE (oAd 3 (hr := by decide)) <| zM <| zZ) ?_
  refine pwp_again (SimImp.refl _) ?_
  refine pwp_seq <| kx [(38, (vb false))] [] (zE (oBk false oLt) <| zZ) ?_
  refine pwp_seq <| pwp_cond (b := false) (by kernel_rfl) (fun h => by cases h) (fun _ => ?_)
  refine pwp_exit <| pwp_sim (wk (l := [(0, (vl 82 1 enc_sl_82 [y4, y5, y6])), (2, (.ref 0 0)), (4, (vb true)), (23, (vl 82 1 enc_sl_82 [y4, y5, y6])), (24, (vin 3)), (25, (vin 2)), (35, (vl 67 4 encR y6)), (36, (vin 3)), (37, (vin 3)), (38, (vb false))]) (b := [(0, some y1)])) ?_
  refine kx [(25, (vin 3))] [] (zE (oAd 3 (hr := by decide)) <| zM <| zZ) ?_
  refine pwp_again (SimImp.refl _) ?_
  refine pwp_seq <| kx [(26, (vb false))] [] (zE (oBk false oLt) <| zZ) ?_
  refine pwp_seq <| pwp_cond (b := false) (by kernel_rfl) (fun h => by cases h) (fun _ => ?_)
  refine pwp_exit <| pwp_seq <| pwp_seq <| kx [(48, (vb false))] [] (zM <| zE oNt <| zZ) ?_
  refine pwp_cond (b := false) (by kernel_rfl) (fun h => by cases h) (fun _ => ?_)
  refine pwp_skip <| pwp_seq <| kx [(9, (.ref 10 0))] [(10, some (bx (encI (ofZ 1))))] (zE (oCl (t_of 1 (by decide) (by decide))) <| zN (oAl 10 ze30 zo30) <| zT (oSt sh30) <| zZ) ?_
  refine pwp_seq <| pwp_seq <| kx [(51, (vl 82 1 enc_sl_82 [y4, y5, y6])), (52, (vin 3)), (53, (vin 0))] [] (zM <| zE (oLn el76 3 (hr := rfl)) <| zM <| zZ) ?_
  refine pwp_block <| pwp_rounds 20 ?_
  refine pwp_round <| pwp_seq <| kx [(54, (vb true))] [] (zE (oBk true oLt) <| zZ) ?_
  refine pwp_seq <| pwp_cond (b := true) (by kernel_rfl) (fun _ => ?_) (fun h => by cases h)
  refine pwp_skip <| pwp_seq <| pwp_block <| pwp_seq <| kx [(11, (vl 67 4 encR y4))] [] (zE (oXs el76 0) <| zE (oC1 sh82) <| zM <| zZ) ?_
  refine pwp_seq <| kx [(57, (vl 67 4 encR y4)), (58, (vin 3)), (59, (vin 0))] [] (zM <| zE (oLn el82 3 (hr := rfl)) <| zM <| zZ) ?_
  refine pwp_block <| pwp_rounds 20 ?_
  refine pwp_round <| pwp_seq <| kx [(60, (vb true))] [] (zE (oBk true oLt) <| zZ) ?_
  refine pwp_seq <| pwp_cond (b := true) (by kernel_rfl) (fun _ => ?_) (fun h => by cases h)
  refine pwp_skip <| pwp_seq <| pwp_block <| pwp_seq <| kx [(13, (.ref 11 0))] [(11, some (bx (encR (RRat.mk (ofZ n0) (ofZ d0)))))] (zE (oXs el82 0) <| zE (oCa sh67) <| zN (oAl 11 ze67 zo67) <| zT (oSt sh67) <| zZ) ?_
  have bn1 : IOk (ofZ e0) e0 9 := (iok_eqz he0.symm (iok_mul (k := 9) (iok_small (z := 1) (by decide)) hd0 (by decide)))
  refine kx [] [(10, some (bx (encI (ofZ e0))))] (zR (oLa sh30) <| zE (oFr fo67_1) <| zR (oLa sh30) <| zE (oCl (by have h := s_mul (iok_small (z := 1) (by decide)) hd0 (by decide) (by decide); rw [he0] at h; exact h)) <| zT (oSt sh30) <| zZ) ?_
  refine kx [(59, (vin 1))] [] (zE (oAd 1 (hr := by decide)) <| zM <| zZ) ?_
  refine pwp_again (SimImp.refl _) ?_
  refine pwp_seq <| kx [(60, (vb true))] [] (zE (oBk true oLt) <| zZ) ?_
  refine pwp_seq <| pwp_cond (b := true) (by kernel_rfl) (fun _ => ?_) (fun h => by cases h)
  refine pwp_skip <| pwp_seq <| pwp_block <| pwp_seq <| kx [(13, (.ref 12 0))] [(12, some (bx (encR (RRat.mk (ofZ n1) (ofZ d1)))))] (zE (oXs el82 1) <| zE (oCa sh67) <| zN (oAl 12 ze67 zo67) <| zT (oSt sh67) <| zZ) ?_
  refine pwp_sim (wk (l := [(0, (vl 82 1 enc_sl_82 [y4, y5, y6])), (2, (.ref 0 0)), (9, (.ref 10 0)), (13, (.ref 12 0)), (51, (vl 82 1 enc_sl_82 [y4, y5, y6])), (52, (vin 3)), (53, (vin 0)), (57, (vl 67 4 encR y4)), (58, (vin 3)), (59, (vin 1))]) (b := [(0, some y1), (10, some (bx (encI (ofZ e0)))), (12, some (bx (encR (RRat.mk (ofZ n1) (ofZ d1)))))])) ?_
  have bn2 : IOk (ofZ e1) e1 17 := (iok_eqz he1.symm (iok_mul (k := 17) bn1 hd1 (by decide)))
  refine kx [] [(10, some (bx (encI (ofZ e1))))] (zR (oLa sh30) <| zE (oFr fo67_1) <| zR (oLa sh30) <| zE (oCl (by have h := s_mul bn1 hd1 (by decide) (by decide); rw [he1] at h; exact h)) <| zT (oSt sh30) <| zZ) ?_
  refine kx [(59, (vin 2))] [] (zE (oAd 2 (hr := by decide)) <| zM <| zZ) ?_
  refine pwp_again (SimImp.refl _) ?_
  refine pwp_seq <| kx [(60, (vb true))] [] (zE (oBk true oLt) <| zZ) ?_
  refine pwp_seq <| pwp_cond (b := true) (by kernel_rfl) (fun _ => ?_) (fun h => by cases h)
  refine pwp_skip <| pwp_seq <| pwp_block <| pwp_seq <| kx [(13, (.ref 13 0))] [(13, some (bx (encR (RRat.mk (ofZ n2) (ofZ d2)))))] (zE (oXs el82 2) <| zE (oCa sh67) <| zN (oAl 13 ze67 zo67) <| zT (oSt sh67) <| zZ) ?_
  have bn3 : IOk (ofZ e2) e2 25 := (iok_eqz he2.symm (iok_mul (k := 25) bn2 hd2 (by decide)))
  refine kx [] [(10, some (bx (encI (ofZ e2))))] (zR (oLa sh30) <| zE (oFr fo67_1) <| zR (oLa sh30) <| zE (oCl (by have h := s_mul bn2 hd2 (by decide) (by decide); rw [he2] at h; exact h)) <| zT (oSt sh30) <| zZ) ?_
  refine kx [(59, (vin 3))] [] (zE (oAd 3 (hr := by decide)) <| zM <| zZ) ?_
  refine pwp_again (SimImp.refl _) ?_
  refine pwp_seq <| kx [(60, (vb false))] [] (zE (oBk false oLt) <| zZ) ?_
  refine pwp_seq <| pwp_cond (b := false) (by kernel_rfl) (fun h => by cases h) (fun _ => ?_)
  refine pwp_exit <| kx [(53, (vin 1))] [] (zE (oAd 1 (hr := by decide)) <| zM <| zZ) ?_
  refine pwp_again (SimImp.refl _) ?_
  refine pwp_seq <| kx [(54, (vb true))] [] (zE (oBk true oLt) <| zZ) ?_
  refine pwp_seq <| pwp_cond (b := true) (by kernel_rfl) (fun _ => ?_) (fun h => by cases h)
  refine pwp_skip <| pwp_seq <| pwp_block <| pwp_seq <| kx [(11, (vl 67 4 encR y5))] [] (zE (oXs el76 1) <| zE (oC1 sh82) <| zM <| zZ) ?_
  refine pwp_seq <| kx [(57, (vl 67 4 encR y5)), (58, (vin 3)), (59, (vin 0))] [] (zM <| zE (oLn el82 3 (hr := rfl)) <| zM <| zZ) ?_
  refine pwp_block <| pwp_rounds 20 ?_
  refine pwp_round <| pwp_seq <| kx [(60, (vb true))] [] (zE (oBk true oLt) <| zZ) ?_
  refine pwp_seq <| pwp_cond (b := true) (by kernel_rfl) (fun _ => ?_) (fun h => by cases h)
  refine pwp_skip <| pwp_seq <| pwp_block <| pwp_seq <| kx [(13, (.ref 14 0))] [(14, some (bx (encR (RRat.mk (ofZ n3) (ofZ d3)))))] (zE (oXs el82 0) <| zE (oCa sh67) <| zN (oAl 14 ze67 zo67) <| zT (oSt sh67) <| zZ) ?_
  have bn4 : IOk (ofZ e3) e3 33 := (iok_eqz he3.symm (iok_mul (k := 33) bn3 hd3 (by decide)))
  refine kx [] [(10, some (bx (encI (ofZ e3))))] (zR (oLa sh30) <| zE (oFr fo67_1) <| zR (oLa sh30) <| zE (oCl (by have h := s_mul bn3 hd3 (by decide) (by decide); rw [he3] at h; exact h)) <| zT (oSt sh30) <| zZ) ?_
  refine pwp_sim (wk (l := [(0, (vl 82 1 enc_sl_82 [y4, y5, y6])), (2, (.ref 0 0)), (9, (.ref 10 0)), (51, (vl 82 1 enc_sl_82 [y4, y5, y6])), (52, (vin 3)), (53, (vin 1)), (57, (vl 67 4 encR y5)), (58, (vin 3)), (59, (vin 0))]) (b := [(0, some y1), (10, some (bx (encI (ofZ e3))))])) ?_
  refine kx [(59, (vin 1))] [] (zE (oAd 1 (hr := by decide)) <| zM <| zZ) ?_
  refine pwp_again (SimImp.refl _) ?_
  refine pwp_seq <| kx [(60, (vb true))] [] (zE (oBk true oLt) <| zZ) ?_
  refine pwp_seq <| pwp_cond (b := true) (by kernel_rfl) (fun _ => ?_) (fun h => by cases h)
  refine pwp_skip <| pwp_seq <| pwp_block <| pwp_seq <| kx [(13, (.ref 15 0))] [(15, some (bx (encR (RRat.mk (ofZ n4) (ofZ d4)))))] (zE (oXs el82 1) <| zE (oCa sh67) <| zN (oAl 15 ze67 zo67) <| zT (oSt sh67) <| zZ) ?_
  have bn5 : IOk (ofZ e4) e4 41 := (iok_eqz he4.symm (iok_mul (k := 41) bn4 hd4 (by decide)))
  refine kx [] [(10, some (bx (encI (ofZ e4))))] (zR (oLa sh30) <| zE (oFr fo67_1) <| zR (oLa sh30) <| zE (oCl (by have h := s_mul bn4 hd4 (by decide) (by decide); rw [he4] at h; exact h)) <| zT (oSt sh30) <| zZ) ?_
  refine kx [(59, (vin 2))] [] (zE (oAd 2 (hr := by decide)) <| zM <| zZ) ?_
  refine pwp_again (SimImp.refl _) ?_
  refine pwp_seq <| kx [(60, (vb true))] [] (zE (oBk true oLt) <| zZ) ?_
  refine pwp_seq <| pwp_cond (b := true) (by kernel_rfl) (fun _ => ?_) (fun h => by cases h)
  refine pwp_skip <| pwp_seq <| pwp_block <| pwp_seq <| kx [(13, (.ref 16 0))] [(16, some (bx (encR (RRat.mk (ofZ n5) (ofZ d5)))))] (zE (oXs el82 2) <| zE (oCa sh67) <| zN (oAl 16 ze67 zo67) <| zT (oSt sh67) <| zZ) ?_
  have bn6 : IOk (ofZ e5) e5 49 := (iok_eqz he5.symm (iok_mul (k := 49) bn5 hd5 (by decide)))
  refine kx [] [(10, some (bx (encI (ofZ e5))))] (zR (oLa sh30) <| zE (oFr fo67_1) <| zR (oLa sh30) <| zE (oCl (by have h := s_mul bn5 hd5 (by decide) (by decide); rw [he5] at h; exact h)) <| zT (oSt sh30) <| zZ) ?_
  refine kx [(59, (vin 3))] [] (zE (oAd 3 (hr := by decide)) <| zM <| zZ) ?_
  refine pwp_again (SimImp.refl _) ?_
  refine pwp_seq <| kx [(60, (vb false))] [] (zE (oBk false oLt) <| zZ) ?_
  refine pwp_seq <| pwp_cond (b := false) (by kernel_rfl) (fun h => by cases h) (fun _ => ?_)
  refine pwp_exit <| kx [(53, (vin 2))] [] (zE (oAd 2 (hr := by decide)) <| zM <| zZ) ?_
  refine pwp_again (SimImp.refl _) ?_
  refine pwp_seq <| kx [(54, (vb true))] [] (zE (oBk true oLt) <| zZ) ?_
  refine pwp_seq <| pwp_cond (b := true) (by kernel_rfl) (fun _ => ?_) (fun h => by cases h)
  refine pwp_skip <| pwp_seq <| pwp_block <| pwp_seq <| kx [(11, (vl 67 4 encR y6))] [] (zE (oXs el76 2) <| zE (oC1 sh82) <| zM <| zZ) ?_
  refine pwp_seq <| kx [(57, (vl 67 4 encR y6)), (58, (vin 3)), (59, (vin 0))] [] (zM <| zE (oLn el82 3 (hr := rfl)) <| zM <| zZ) ?_
  refine pwp_block <| pwp_rounds 20 ?_
  refine pwp_round <| pwp_seq <| pwp_sim (wk (l := [(0, (vl 82 1 enc_sl_82 [y4, y5, y6])), (2, (.ref 0 0)), (9, (.ref 10 0)), (51, (vl 82 1 enc_sl_82 [y4, y5, y6])), (52, (vin 3)), (53, (vin 2)), (57, (vl 67 4 encR y6)), (58, (vin 3)), (59, (vin 0))]) (b := [(0, some y1), (10, some (bx (encI (ofZ e5))))])) ?_
  refine kx [(60, (vb true))] [] (zE (oBk true oLt) <| zZ) ?_
  refine pwp_seq <| pwp_cond (b := true) (by kernel_rfl) (fun _ => ?_) (fun h => by cases h)
  refine pwp_skip <| pwp_seq <| pwp_block <| pwp_seq <| kx [(13, (.ref 17 0))] [(17, some (bx (encR (RRat.mk (ofZ n6) (ofZ d6)))))] (zE (oXs el82 0) <| zE (oCa sh67) <| zN (oAl 17 ze67 zo67) <| zT (oSt sh67) <| zZ) ?_
  have bn7 : IOk (ofZ e6) e6 57 := (iok_eqz he6.symm (iok_mul (k := 57) bn6 hd6 (by decide)))
  refine kx [] [(10, some (bx (encI (ofZ e6))))] (zR (oLa sh30) <| zE (oFr fo67_1) <| zR (oLa sh30) <| zE (oCl (by have h := s_mul bn6 hd6 (by decide) (by decide); rw [he6] at h; exact h)) <| zT (oSt sh30) <| zZ) ?_
  refine kx [(59, (vin 1))] [] (zE (oAd 1 (hr := by decide)) <| zM <| zZ) ?_
  refine pwp_again (SimImp.refl _) ?_
  refine pwp_seq <| kx [(60, (vb true))] [] (zE (oBk true oLt) <| zZ) ?_
  refine pwp_seq <| pwp_cond (b := true) (by kernel_rfl) (fun _ => ?_) (fun h => by cases h)
  refine pwp_skip <| pwp_seq <| pwp_block <| pwp_seq <| kx [(13, (.ref 18 0))] [(18, some (bx (encR (RRat.mk (ofZ n7) (ofZ d7)))))] (zE (oXs el82 1) <| zE (oCa sh67) <| zN (oAl 18 ze67 zo67) <| zT (oSt sh67) <| zZ) ?_
  have bn8 : IOk (ofZ e7) e7 65 := (iok_eqz he7.symm (iok_mul (k := 65) bn7 hd7 (by decide)))
  refine kx [] [(10, some (bx (encI (ofZ e7))))] (zR (oLa sh30) <| zE (oFr fo67_1) <| zR (oLa sh30) <| zE (oCl (by have h := s_mul bn7 hd7 (by decide) (by decide); rw [he7] at h; exact h)) <| zT (oSt sh30) <| zZ) ?_
  refine kx [(59, (vin 2))] [] (zE (oAd 2 (hr := by decide)) <| zM <| zZ) ?_
  refine pwp_again (SimImp.refl _) ?_
  refine pwp_seq <| kx [(60, (vb true))] [] (zE (oBk true oLt) <| zZ) ?_
  refine pwp_seq <| pwp_cond (b := true) (by kernel_rfl) (fun _ => ?_) (fun h => by cases h)
  refine pwp_skip <| pwp_seq <| pwp_block <| pwp_seq <| kx [(13, (.ref 19 0))] [(19, some (bx (encR (RRat.mk (ofZ n8) (ofZ d8)))))] (zE (oXs el82 2) <| zE (oCa sh67) <| zN (oAl 19 ze67 zo67) <| zT (oSt sh67) <| zZ) ?_
  have bn9 : IOk (ofZ e8) e8 73 := (iok_eqz he8.symm (iok_mul (k := 73) bn8 hd8 (by decide)))
  refine kx [] [(10, some (bx (encI (ofZ e8))))] (zR (oLa sh30) <| zE (oFr fo67_1) <| zR (oLa sh30) <| zE (oCl (by have h := s_mul bn8 hd8 (by decide) (by decide); rw [he8] at h; exact h)) <| zT (oSt sh30) <| zZ) ?_
  refine kx [(59, (vin 3))] [] (zE (oAd 3 (hr := by decide)) <| zM <| zZ) ?_
  refine pwp_again (SimImp.refl _) ?_
  refine pwp_seq <| kx [(60, (vb false))] [] (zE (oBk false oLt) <| zZ) ?_
  refine pwp_seq <| pwp_cond (b := false) (by kernel_rfl) (fun h => by cases h) (fun _ => ?_)
  refine pwp_exit <| kx [(53, (vin 3))] [] (zE (oAd 3 (hr := by decide)) <| zM <| zZ) ?_
  refine pwp_again (SimImp.refl _) ?_
  refine pwp_seq <| pwp_sim (wk (l := [(0, (vl 82 1 enc_sl_82 [y4, y5, y6])), (2, (.ref 0 0)), (9, (.ref 10 0)), (51, (vl 82 1 enc_sl_82 [y4, y5, y6])), (52, (vin 3)), (53, (vin 3))]) (b := [(0, some y1), (10, some (bx (encI (ofZ e8))))])) ?_
  refine kx [(54, (vb false))] [] (zE (oBk false oLt) <| zZ) ?_
  refine pwp_seq <| pwp_cond (b := false) (by kernel_rfl) (fun h => by cases h) (fun _ => ?_)
  refine pwp_exit <| pwp_seq <| kx [(14, (.ref 20 0))] [(20, some y1)] (zN (oAl 20 ze32 zo32) <| zZ) ?_
  refine pwp_seq <| pwp_seq <| kx [(69, (vin 0))] [] (zM <| zZ) ?_
  refine pwp_block <| pwp_rounds 20 ?_
  refine pwp_round <| pwp_seq <| kx [(70, (vb true))] [] (zE (oBk true oLt) <| zZ) ?_
  refine pwp_seq <| pwp_cond (b := true) (by kernel_rfl) (fun _ => ?_) (fun h => by cases h)
  refine pwp_skip <| pwp_seq <| pwp_block <| pwp_seq <| kx [(15, (vin 0))] [] (zM <| zM <| zZ) ?_
  refine pwp_seq <| kx [(16, (.ref 21 0))] [(21, some (bx (encR (RRat.mk (ofZ n0) (ofZ d0)))))] (zM <| zM <| zE (oQu 0 (hr := by decide)) <| zE (oXs el76 0) <| zE (oC1 sh82) <| zM <| zE (oRe 0 (hr := by decide)) <| zE (oXs el82 0) <| zE (oCa sh67) <| zN (oAl 21 ze67 zo67) <| zT (oSt sh67) <| zZ) ?_
  refine pwp_seq <| kx [(17, (.ref 22 0))] [(22, some (bx (encI (ofZ (e8.fdiv d0))))), (23, none)] (zR (oLa sh30) <| zE (oFr fo67_1) <| zR (oLa sh30) <| zE (oCl (s_divide bn9 hd0 (by decide) (by decide) (by omega))) <| zM <| zE oEx <| zE oEx <| zE oEx <| zN (oAl 22 ze30 zo30) <| zN (oAl 23 ze30 zo30) <| zT (oSt sh30) <| zT (oSt sh30) <| zM <| zZ) ?_
  have bn10 : IOk (ofZ w0) w0 82 := (iok_eqz hw0.symm (iok_mul (k := 82) (iok_fdiv (k := 74) bn9 hd0 (by decide)) hn0 (by decide)))
  refine kx [] [(20, some (bx (encA31 (A9.mk (ofZ w0) (RInt.mk false []) (RInt.mk false []) (RInt.mk false []) (RInt.mk false []) (RInt.mk false []) (RInt.mk false []) (RInt.mk false []) (RInt.mk false [])))))] (zM <| zR (oLa sh30) <| zE (oFr fo67_0) <| zR (oLa sh30) <| zE (oCl (by have h := s_mul (iok_fdiv (k := 74) bn9 hd0 (by decide)) hn0 (by decide) (by decide); rw [hw0] at h; exact h)) <| zE (oXr ar32 0) <| zT (oSt sh30) <| zZ) ?_
  refine kx [(69, (vin 1))] [] (zE (oAd 1 (hr := by decide)) <| zM <| zZ) ?_
  refine pwp_again (SimImp.refl _) ?_
  refine pwp_seq <| kx [(70, (vb true))] [] (zE (oBk true oLt) <| zZ) ?_
  refine pwp_seq <| pwp_cond (b := true) (by kernel_rfl) (fun _ => ?_) (fun h => by cases h)
  refine pwp_skip <| pwp_seq <| pwp_block <| pwp_seq <| kx [(15, (vin 1))] [] (zM <| zM <| zZ) ?_
  refine pwp_seq <| kx [(16, (.ref 24 0))] [(24, some (bx (encR (RRat.mk (ofZ n1) (ofZ d1)))))] (zM <| zM <| zE (oQu 0 (hr := by decide)) <| zE (oXs el76 0) <| zE (oC1 sh82) <| zM <| zE (oRe 1 (hr := by decide)) <| zE (oXs el82 1) <| zE (oCa sh67) <| zN (oAl 24 ze67 zo67) <| zT (oSt sh67) <| zZ) ?_
  refine pwp_seq <| kx [(17, (.ref 25 0))] [(25, some (bx (encI (ofZ (e8.fdiv d1))))), (26, none)] (zR (oLa sh30) <| zE (oFr fo67_1) <| zR (oLa sh30) <| zE (oCl (s_divide bn9 hd1 (by decide) (by decide) (by omega))) <| zM <| zE oEx <| zE oEx <| zE oEx <| zN (oAl 25 ze30 zo30) <| zN (oAl 26 ze30 zo30) <| zT (oSt sh30) <| zT (oSt sh30) <| zM <| zZ) ?_
  have bn11 : IOk (ofZ w1) w1 82 := (iok_eqz hw1.symm (iok_mul (k := 82) (iok_fdiv (k := 74) bn9 hd1 (by decide)) hn1 (by decide)))
  refine kx [] [(20, some y2)] (zM <| zR (oLa sh30) <| zE (oFr fo67_0) <| zR (oLa sh30) <| zE (oCl (by have h := s_mul (iok_fdiv (k := 74) bn9 hd1 (by decide)) hn1 (by decide) (by decide); rw [hw1] at h; exact h)) <| zE (oXr ar32 1) <| zT (oSt sh30) <| zZ) ?_
  refine pwp_sim (wk (l := [(0, (vl 82 1 enc_sl_82 [y4, y5, y6])), (2, (.ref 0 0)), (9, (.ref 10 0)), (14, (.ref 20 0)), (69, (vin 1))]) (b := [(0, some y1), (10, some (bx (encI (ofZ e8)))), (20, some y2)])) ?_
  refine kx [(69, (vin 2))] [] (zE (oAd 2 (hr := by decide)) <| zM <| zZ) ?_
  refine pwp_again (SimImp.refl _) ?_
  refine pwp_seq <| kx [(70, (vb true))] [] (zE (oBk true oLt) <| zZ) ?_
  refine pwp_seq <| pwp_cond (b := true) (by kernel_rfl) (fun _ => ?_) (fun h => by cases h)
  refine pwp_skip <| pwp_seq <| pwp_block <| pwp_seq <| kx [(15, (vin 2))] [] (zM <| zM <| zZ) ?_
  refine pwp_seq <| kx [(16, (.ref 27 0))] [(27, some (bx (encR (RRat.mk (ofZ n2) (ofZ d2)))))] (zM <| zM <| zE (oQu 0 (hr := by decide)) <| zE (oXs el76 0) <| zE (oC1 sh82) <| zM <| zE (oRe 2 (hr := by decide)) <| zE (oXs el82 2) <| zE (oCa sh67) <| zN (oAl 27 ze67 zo67) <| zT (oSt sh67) <| zZ) ?_
  refine pwp_seq <| kx [(17, (.ref 28 0))] [(28, some (bx (encI (ofZ (e8.fdiv d2))))), (29, none)] (zR (oLa sh30) <| zE (oFr fo67_1) <| zR (oLa sh30) <| zE (oCl (s_divide bn9 hd2 (by decide) (by decide) (by omega))) <| zM <| zE oEx <| zE oEx <| zE oEx <| zN (oAl 28 ze30 zo30) <| zN (oAl 29 ze30 zo30) <| zT (oSt sh30) <| zT (oSt sh30) <| zM <| zZ) ?_
  have bn12 : IOk (ofZ w2) w2 82 := (iok_eqz hw2.symm (iok_mul (k := 82) (iok_fdiv (k := 74) bn9 hd2 (by decide)) hn2 (by decide)))
  refine kx [] [(20, some (bx (encA31 (A9.mk (ofZ w0) (ofZ w1) (ofZ w2) (RInt.mk false []) (RInt.mk false []) (RInt.mk false []) (RInt.mk false []) (RInt.mk false []) (RInt.mk false [])))))] (zM <| zR (oLa sh30) <| zE (oFr fo67_0) <| zR (oLa sh30) <| zE (oCl (by have h := s_mul (iok_fdiv (k := 74) bn9 hd2 (by decide)) hn2 (by decide) (by decide); rw [hw2] at h; exact h)) <| zE (oXr ar32 2) <| zT (oSt sh30) <| zZ) ?_
  refine kx [(69, (vin 3))] [] (zE (oAd 3 (hr := by decide)) <| zM <| zZ) ?_
  refine pwp_again (SimImp.refl _) ?_
  refine pwp_seq <| kx [(70, (vb true))] [] (zE (oBk true oLt) <| zZ) ?_
  refine pwp_seq <| pwp_cond (b := true) (by kernel_rfl) (fun _ => ?_) (fun h => by cases h)
  refine pwp_skip <| pwp_seq <| pwp_block <| pwp_seq <| kx [(15, (vin 3))] [] (zM <| zM <| zZ) ?_
  refine pwp_seq <| kx [(16, (.ref 30 0))] [(30, some (bx (encR (RRat.mk (ofZ n3) (ofZ d3)))))] (zM <| zM <| zE (oQu 1 (hr := by decide)) <| zE (oXs el76 1) <| zE (oC1 sh82) <| zM <| zE (oRe 0 (hr := by decide)) <| zE (oXs el82 0) <| zE (oCa sh67) <| zN (oAl 30 ze67 zo67) <| zT (oSt sh67) <| zZ) ?_
  refine pwp_seq <| kx [(17, (.ref 31 0))] [(31, some (bx (encI (ofZ (e8.fdiv d3))))), (32, none)] (zR (oLa sh30) <| zE (oFr fo67_1) <| zR (oLa sh30) <| zE (oCl (s_divide bn9 hd3 (by decide) (by decide) (by omega))) <| zM <| zE oEx <| zE oEx <| zE oEx <| zN (oAl 31 ze30 zo30) <| zN (oAl 32 ze30 zo30) <| zT (oSt sh30) <| zT (oSt sh30) <| zM <| zZ) ?_
  have bn13 : IOk (ofZ w3) w3 82 := (iok_eqz hw3.symm (iok_mul (k := 82) (iok_fdiv (k := 74) bn9 hd3 (by decide)) hn3 (by decide)))
  refine kx [] [(20, some (bx (encA31 (A9.mk (ofZ w0) (ofZ w1) (ofZ w2) (ofZ w3) (RInt.mk false []) (RInt.mk false []) (RInt.mk false []) (RInt.mk false []) (RInt.mk false [])))))] (zM <| zR (oLa sh30) <| zE (oFr fo67_0) <| zR (oLa sh30) <| zE (oCl (by have h := s_mul (iok_fdiv (k := 74) bn9 hd3 (by decide)) hn3 (by decide) (by decide); rw [hw3] at h; exact h)) <| zE (oXr ar32 3) <| zT (oSt sh30) <| zZ) ?_
  refine kx [(69, (vin 4))] [] (zE (oAd 4 (hr := by decide)) <| zM <| zZ) ?_
  refine pwp_again (SimImp.refl _) ?_
  refine pwp_seq <| kx [(70, (vb true))] [] (zE (oBk true oLt) <| zZ) ?_
  refine pwp_seq <| pwp_cond (b := true) (by kernel_rfl) (fun _ => ?_) (fun h => by cases h)
  refine pwp_skip <| pwp_seq <| pwp_block <| pwp_seq <| pwp_sim (wk (l := [(0, (vl 82 1 enc_sl_82 [y4, y5, y6])), (2, (.ref 0 0)), (9, (.ref 10 0)), (14, (.ref 20 0)), (69, (vin 4)), (70, (vb true))]) (b := [(0, some y1), (10, some (bx (encI (ofZ e8)))), (20, some (bx (encA31 (A9.mk (ofZ w0) (ofZ w1) (ofZ w2) (ofZ w3) (RInt.mk false []) (RInt.mk false []) (RInt.mk false []) (RInt.mk false []) (RInt.mk false [])))))])) ?_
  refine kx [(15, (vin 4))] [] (zM <| zM <| zZ) ?_
  refine pwp_seq <| kx [(16, (.ref 33 0))] [(33, some (bx (encR (RRat.mk (ofZ n4) (ofZ d4)))))] (zM <| zM <| zE (oQu 1 (hr := by decide)) <| zE (oXs el76 1) <| zE (oC1 sh82) <| zM <| zE (oRe 1 (hr := by decide)) <| zE (oXs el82 1) <| zE (oCa sh67) <| zN (oAl 33 ze67 zo67) <| zT (oSt sh67) <| zZ) ?_
  refine pwp_seq <| kx [(17, (.ref 34 0))] [(34, some (bx (encI (ofZ (e8.fdiv d4))))), (35, none)] (zR (oLa sh30) <| zE (oFr fo67_1) <| zR (oLa sh30) <| zE (oCl (s_divide bn9 hd4 (by decide) (by decide) (by omega))) <| zM <| zE oEx <| zE oEx <| zE oEx <| zN (oAl 34 ze30 zo30) <| zN (oAl 35 ze30 zo30) <| zT (oSt sh30) <| zT (oSt sh30) <| zM <| zZ) ?_
  have bn14 : IOk (ofZ w4) w4 82 := (iok_eqz hw4.symm (iok_mul (k := 82) (iok_fdiv (k := 74) bn9 hd4 (by decide)) hn4 (by decide)))
  refine kx [] [(20, some (bx (encA31 (A9.mk (ofZ w0) (ofZ w1) (ofZ w2) (ofZ w3) (ofZ w4) (RInt.mk false []) (RInt.mk false []) (RInt.mk false []) (RInt.mk false [])))))] (zM <| zR (oLa sh30) <| zE (oFr fo67_0) <| zR (oLa sh30) <| zE (oCl (by have h := s_mul (iok_fdiv (k := 74) bn9 hd4 (by decide)) hn4 (by decide) (by decide); rw [hw4] at h; exact h)) <| zE (oXr ar32 4) <| zT (oSt sh30) <| zZ) ?_
  refine kx [(69, (vin 5))] [] (zE (oAd 5 (hr := by decide)) <| zM <| zZ) ?_
  refine pwp_again (SimImp.refl _) ?_
  refine pwp_seq <| kx [(70, (vb true))] [] (zE (oBk true oLt) <| zZ) ?_
  refine pwp_seq <| pwp_cond (b := true) (by kernel_rfl) (fun _ => ?_) (fun h => by cases h)
  refine pwp_skip <| pwp_seq <| pwp_block <| pwp_seq <| kx [(15, (vin 5))] [] (zM <| zM <| zZ) ?_
  refine pwp_seq <| kx [(16, (.ref 36 0))] [(36, some (bx (encR (RRat.mk (ofZ n5) (ofZ d5)))))] (zM <| zM <| zE (oQu 1 (hr := by decide)) <| zE (oXs el76 1) <| zE (oC1 sh82) <| zM <| zE (oRe 2 (hr := by decide)) <| zE (oXs el82 2) <| zE (oCa sh67) <| zN (oAl 36 ze67 zo67) <| zT (oSt sh67) <| zZ) ?_
  refine pwp_seq <| kx [(17, (.ref 37 0))] [(37, some (bx (encI (ofZ (e8.fdiv d5))))), (38, none)] (zR (oLa sh30) <| zE (oFr fo67_1) <| zR (oLa sh30) <| zE (oCl (s_divide bn9 hd5 (by decide) (by decide) (by omega))) <| zM <| zE oEx <| zE oEx <| zE oEx <| zN (oAl 37 ze30 zo30) <| zN (oAl 38 ze30 zo30) <| zT (oSt sh30) <| zT (oSt sh30) <| zM <| zZ) ?_
  have bn15 : IOk (ofZ w5) w5 82 := (iok_eqz hw5.symm (iok_mul (k := 82) (iok_fdiv (k := 74) bn9 hd5 (by decide)) hn5 (by decide)))
  refine kx [] [(20, some (bx (encA31 (A9.mk (ofZ w0) (ofZ w1) (ofZ w2) (ofZ w3) (ofZ w4) (ofZ w5) (RInt.mk false []) (RInt.mk false []) (RInt.mk false [])))))] (zM <| zR (oLa sh30) <| zE (oFr fo67_0) <| zR (oLa sh30) <| zE (oCl (by have h := s_mul (iok_fdiv (k := 74) bn9 hd5 (by decide)) hn5 (by decide) (by decide); rw [hw5] at h; exact h)) <| zE (oXr ar32 5) <| zT (oSt sh30) <| zZ) ?_
  refine kx [(69, (vin 6))] [] (zE (oAd 6 (hr := by decide)) <| zM <| zZ) ?_
  refine pwp_again (SimImp.refl _) ?_
  refine pwp_seq <| kx [(70, (vb true))] [] (zE (oBk true oLt) <| zZ) ?_
  refine pwp_seq <| pwp_cond (b := true) (by kernel_rfl) (fun _ => ?_) (fun h => by cases h)
  refine pwp_skip <| pwp_seq <| pwp_block <| pwp_seq <| kx [(15, (vin 6))] [] (zM <| zM <| zZ) ?_
  refine pwp_seq <| kx [(16, (.ref 39 0))] [(39, some (bx (encR (RRat.mk (ofZ n6) (ofZ d6)))))] (zM <| zM <| zE (oQu 2 (hr := by decide)) <| zE (oXs el76 2) <| zE (oC1 sh82) <| zM <| zE (oRe 0 (hr := by decide)) <| zE (oXs el82 0) <| zE (oCa sh67) <| zN (oAl 39 ze67 zo67) <| zT (oSt sh67) <| zZ) ?_
  refine pwp_seq <| pwp_sim (wk (l := [(0, (vl 82 1 enc_sl_82 [y4, y5, y6])), (2, (.ref 0 0)), (9, (.ref 10 0)), (14, (.ref 20 0)), (15, (vin 6)), (16, (.ref 39 0)), (69, (vin 6))]) (b := [(0, some y1), (10, some (bx (encI (ofZ e8)))), (20, some (bx (encA31 (A9.mk (ofZ w0) (ofZ w1) (ofZ w2) (ofZ w3) (ofZ w4) (ofZ w5) (RInt.mk false []) (RInt.mk false []) (RInt.mk false []))))), (39, some (bx (encR (RRat.mk (ofZ n6) (ofZ d6)))))])) ?_
  refine kx [(17, (.ref 40 0))] [(40, some (bx (encI (ofZ (e8.fdiv d6))))), (41, none)] (zR (oLa sh30) <| zE (oFr fo67_1) <| zR (oLa sh30) <| zE (oCl (s_divide bn9 hd6 (by decide) (by decide) (by omega))) <| zM <| zE oEx <| zE oEx <| zE oEx <| zN (oAl 40 ze30 zo30) <| zN (oAl 41 ze30 zo30) <| zT (oSt sh30) <| zT (oSt sh30) <| zM <| zZ) ?_
  have bn16 : IOk (ofZ w6) w6 82 := (iok_eqz hw6.symm (iok_mul (k := 82) (iok_fdiv (k := 74) bn9 hd6 (by decide)) hn6 (by decide)))
  refine kx [] [(20, some (bx (encA31 (A9.mk (ofZ w0) (ofZ w1) (ofZ w2) (ofZ w3) (ofZ w4) (ofZ w5) (ofZ w6) (RInt.mk false []) (RInt.mk false [])))))] (zM <| zR (oLa sh30) <| zE (oFr fo67_0) <| zR (oLa sh30) <| zE (oCl (by have h := s_mul (iok_fdiv (k := 74) bn9 hd6 (by decide)) hn6 (by decide) (by decide); rw [hw6] at h; exact h)) <| zE (oXr ar32 6) <| zT (oSt sh30) <| zZ) ?_
  refine kx [(69, (vin 7))] [] (zE (oAd 7 (hr := by decide)) <| zM <| zZ) ?_
  refine pwp_again (SimImp.refl _) ?_
  refine pwp_seq <| kx [(70, (vb true))] [] (zE (oBk true oLt) <| zZ) ?_
  refine pwp_seq <| pwp_cond (b := true) (by kernel_rfl) (fun _ => ?_) (fun h => by cases h)
  refine pwp_skip <| pwp_seq <| pwp_block <| pwp_seq <| kx [(15, (vin 7))] [] (zM <| zM <| zZ) ?_
  refine pwp_seq <| kx [(16, (.ref 42 0))] [(42, some (bx (encR (RRat.mk (ofZ n7) (ofZ d7)))))] (zM <| zM <| zE (oQu 2 (hr := by decide)) <| zE (oXs el76 2) <| zE (oC1 sh82) <| zM <| zE (oRe 1 (hr := by decide)) <| zE (oXs el82 1) <| zE (oCa sh67) <| zN (oAl 42 ze67 zo67) <| zT (oSt sh67) <| zZ) ?_
  refine pwp_seq <| kx [(17, (.ref 43 0))] [(43, some (bx (encI (ofZ (e8.fdiv d7))))), (44, none)] (zR (oLa sh30) <| zE (oFr fo67_1) <| zR (oLa sh30) <| zE (oCl (s_divide bn9 hd7 (by decide) (by decide) (by omega))) <| zM <| zE oEx <| zE oEx <| zE oEx <| zN (oAl 43 ze30 zo30) <| zN (oAl 44 ze30 zo30) <| zT (oSt sh30) <| zT (oSt sh30) <| zM <| zZ) ?_
  have bn17 : IOk (ofZ w7) w7 82 := (iok_eqz hw7.symm (iok_mul (k := 82) (iok_fdiv (k := 74) bn9 hd7 (by decide)) hn7 (by decide)))
  refine kx [] [(20, some (bx (encA31 (A9.mk (ofZ w0) (ofZ w1) (ofZ w2) (ofZ w3) (ofZ w4) (ofZ w5) (ofZ w6) (ofZ w7) (RInt.mk false [])))))] (zM <| zR (oLa sh30) <| zE (oFr fo67_0) <| zR (oLa sh30) <| zE (oCl (by have h := s_mul (iok_fdiv (k := 74) bn9 hd7 (by decide)) hn7 (by decide) (by decide); rw [hw7] at h; exact h)) <| zE (oXr ar32 7) <| zT (oSt sh30) <| zZ) ?_
  refine kx [(69, (vin 8))] [] (zE (oAd 8 (hr := by decide)) <| zM <| zZ) ?_
  refine pwp_again (SimImp.refl _) ?_
  refine pwp_seq <| kx [(70, (vb true))] [] (zE (oBk true oLt) <| zZ) ?_
  refine pwp_seq <| pwp_cond (b := true) (by kernel_rfl) (fun _ => ?_) (fun h => by cases h)
  refine pwp_skip <| pwp_seq <| pwp_block <| pwp_seq <| kx [(15, (vin 8))] [] (zM <| zM <| zZ) ?_
  refine pwp_seq <| kx [(16, (.ref 45 0))] [(45, some (bx (encR (RRat.mk (ofZ n8) (ofZ d8)))))] (zM <| zM <| zE (oQu 2 (hr := by decide)) <| zE (oXs el76 2) <| zE (oC1 sh82) <| zM <| zE (oRe 2 (hr := by decide)) <| zE (oXs el82 2) <| zE (oCa sh67) <| zN (oAl 45 ze67 zo67) <| zT (oSt sh67) <| zZ) ?_
  refine pwp_seq <| kx [(17, (.ref 46 0))] [(46, some (bx (encI (ofZ (e8.fdiv d8))))), (47, none)] (zR (oLa sh30) <| zE (oFr fo67_1) <| zR (oLa sh30) <| zE (oCl (s_divide bn9 hd8 (by decide) (by decide) (by omega))) <| zM <| zE oEx <| zE oEx <| zE oEx <| zN (oAl 46 ze30 zo30) <| zN (oAl 47 ze30 zo30) <| zT (oSt sh30) <| zT (oSt sh30) <| zM <| zZ) ?_
  have bn18 : IOk (ofZ w8) w8 82 := (iok_eqz hw8.symm (iok_mul (k := 82) (iok_fdiv (k := 74) bn9 hd8 (by decide)) hn8 (by decide)))
  refine kx [] [(20, some (bx (encA31 y3)))] (zM <| zR (oLa sh30) <| zE (oFr fo67_0) <| zR (oLa sh30) <| zE (oCl (by have h := s_mul (iok_fdiv (k := 74) bn9 hd8 (by decide)) hn8 (by decide) (by decide); rw [hw8] at h; exact h)) <| zE (oXr ar32 8) <| zT (oSt sh30) <| zZ) ?_
  refine pwp_sim (wk (l := [(0, (vl 82 1 enc_sl_82 [y4, y5, y6])), (2, (.ref 0 0)), (9, (.ref 10 0)), (14, (.ref 20 0)), (69, (vin 8))]) (b := [(0, some y1), (10, some (bx (encI (ofZ e8)))), (20, some (bx (encA31 y3)))])) ?_
  refine kx [(69, (vin 9))] [] (zE (oAd 9 (hr := by decide)) <| zM <| zZ) ?_
  refine pwp_again (SimImp.refl _) ?_
  refine pwp_seq <| kx [(70, (vb false))] [] (zE (oBk false oLt) <| zZ) ?_
  refine pwp_seq <| pwp_cond (b := false) (by kernel_rfl) (fun h => by cases h) (fun _ => ?_)
  refine pwp_exit <| pwp_seq <| pwp_seq ?_
  have bn19 : IOk (ofZ (det3 w0 w1 w2 w3 w4 w5 w6 w7 w8)) (det3 w0 w1 w2 w3 w4 w5 w6 w7 w8) 249 := (iok_det3 (n := 82) (k := 249) bn10 bn11 bn12 bn13 bn14 bn15 bn16 bn17 bn18 (by decide))
  refine kd [(104, (vb true))] [] mo (wR (oLa sh32) <| wE (oCl (d_row0 y3 w0 w1 w2 w3 w4 w5 w6 w7 w8 (iu bn10) (iu bn11) (iu bn12) (iu bn13) (iu bn14) (iu bn15) (iu bn16) (iu bn17) (iu bn18))) <| wR (oLa sh32) <| wE (oCl (d_row1 y3 w0 w1 w2 w3 w4 w5 w6 w7 w8 (iu bn10) (iu bn11) (iu bn12) (iu bn13) (iu bn14) (iu bn15) (iu bn16) (iu bn17) (iu bn18))) <| wR (oLa sh32) <| wE (oCl (d_row2 y3 w0 w1 w2 w3 w4 w5 w6 w7 w8 (iu bn10) (iu bn11) (iu bn12) (iu bn13) (iu bn14) (iu bn15) (iu bn16) (iu bn17) (iu bn18))) <| wE (oCl (d_det (A3.mk (ofZ w0) (ofZ w1) (ofZ w2)) w0 w1 w2 (iu bn10) (iu bn11) (iu bn12) (A3.mk (ofZ w3) (ofZ w4) (ofZ w5)) w3 w4 w5 (iu bn13) (iu bn14) (iu bn15) (A3.mk (ofZ w6) (ofZ w7) (ofZ w8)) w6 w7 w8 (iu bn16) (iu bn17) (iu bn18))) <| wE (oCl (s_sign bn19 (by decide))) <| wE (oBk true oEq (by exact beq_iff_eq.2 hd)) <| wZ) ?_
  refine pwp_cond (b := true) (by kernel_rfl) (fun _ => ?_) (fun h => by cases h)
  refine pwp_seq <| kx [(3, (vin 14))] [(0, some y1)] (zE (oBa ar32 ze32 zo32) <| zT (oSt sh32) <| zM <| zZ) ?_
  refine pwp_ret ⟨_, (res_a (cs := (bx (encA31 (A9.mk (RInt.mk false []) (RInt.mk false []) (RInt.mk false []) (RInt.mk false []) (RInt.mk false []) (RInt.mk false []) (RInt.mk false []) (RInt.mk false []) (RInt.mk false []))))) (d := (encA31 (A9.mk (RInt.mk false []) (RInt.mk false []) (RInt.mk false []) (RInt.mk false []) (RInt.mk false []) (RInt.mk false []) (RInt.mk false []) (RInt.mk false []) (RInt.mk false [])))) rfl rfl sh32 rfl rfl (.tmp (d := (.val (.int .i64 (((14 : Nat) : Int))))) rfl .nil)), ?_⟩
  rfl
theorem l_reduceZ (h : A9 RInt) (h0 h1 h2 h3 h4 h5 h6 h7 h8 : Int) (hh0 : IOk h.a0 h0 1000000) (hh1 : IOk h.a1 h1 1000000) (hh2 : IOk h.a2 h2 1000000) (hh3 : IOk h.a3 h3 1000000) (hh4 : IOk h.a4 h4 1000000) (hh5 : IOk h.a5 h5 1000000) (hh6 : IOk h.a6 h6 1000000) (hh7 : IOk h.a7 h7 1000000) (hh8 : IOk h.a8 h8 1000000) (hnz : sgnL [h0, h1, h2, h3, h4, h5, h6, h7, h8] = 0) : Takes Tryz.prog 47 [(encA31 h)] (.tup [(encA31 (A9.mk (RInt.mk false []) (RInt.mk false []) (RInt.mk false []) (RInt.mk false []) (RInt.mk false []) (RInt.mk false []) (RInt.mk false []) (RInt.mk false []) (RInt.mk false []))), (.val (.bool (false)))]) := by
  let y1 := (bx (encA31 (A9.mk (RInt.mk false []) (RInt.mk false []) (RInt.mk false []) (RInt.mk false []) (RInt.mk false []) (RInt.mk false []) (RInt.mk false []) (RInt.mk false []) (RInt.mk false []))))
  refine fn_intro Tryz.func47 rfl cb47 rfl ?_
  show PWp _ _ _ _ ⟨[(0, (.d (encA31 h)))], []⟩
  refine pwp_seq <| kx [(1, (.ref 0 0)), (2, (.ref 1 0))] [(0, some (bx (encA31 h))), (1, some y1)] (zN (oBx 0) <| zN (oAl 1 ze32 zo32) <| zM <| zZ) ?_
  refine pwp_seq <| kx [(4, (.d (.val (.slice none 0 0))))] [] (zE (e_slv (by exact rfl) ar32 (by exact rfl) (by kernel_rfl) (by kernel_rfl)) <| zR ⟨(bx (encA31 h)), e_clv (es := List.map encI [h.a0, h.a1, h.a2, h.a3, h.a4, h.a5, h.a6, h.a7, h.a8]) (l_redN 1000000 [h.a0, h.a1, h.a2, h.a3, h.a4, h.a5, h.a6, h.a7, h.a8] [h0, h1, h2, h3, h4, h5, h6, h7, h8] (.cons hh0 (.cons hh1 (.cons hh2 (.cons hh3 (.cons hh4 (.cons hh5 (.cons hh6 (.cons hh7 (.cons hh8 .nil))))))))) (Nat.le_of_ble_eq_true rfl) hnz) (by exact rfl) (by kernel_rfl) (by exact rfl) (.v .nil) (pubs_cells _ _ (fun _ => rfl)) (by kernel_rfl) (by kernel_rfl) (.val _), by kernel_rfl⟩ <| zM <| zZ) ?_
  refine pwp_seq <| pwp_seq <| kd [(18, (vb true))] [] mo (wM <| wE (oNu el40) <| wM <| wK <| wK <| wK <| wK <| wK <| wK <| wK <| wK <| wE oPt <| wZ) ?_
  refine pwp_cond (b := true) (by kernel_rfl) (fun _ => ?_) (fun h => by cases h)
  refine pwp_seq <| kx [(3, (vb false))] [(1, some y1)] (zE (oBa ar32 ze32 zo32) <| zT (oSt sh32) <| zM <| zZ) ?_
  refine pwp_ret ⟨_, (res_a (cs := (bx (encA31 (A9.mk (RInt.mk false []) (RInt.mk false []) (RInt.mk false []) (RInt.mk false []) (RInt.mk false []) (RInt.mk false []) (RInt.mk false []) (RInt.mk false []) (RInt.mk false []))))) (d := (encA31 (A9.mk (RInt.mk false []) (RInt.mk false []) (RInt.mk false []) (RInt.mk false []) (RInt.mk false []) (RInt.mk false []) (RInt.mk false []) (RInt.mk false []) (RInt.mk false [])))) rfl rfl sh32 rfl rfl (.tmp (d := (.val (.bool (false)))) rfl .nil)), ?_⟩
  rfl
theorem l_reduceS (h : A9 RInt) (h0 h1 h2 h3 h4 h5 h6 h7 h8 : Int) (hh0 : IOk h.a0 h0 1000000) (hh1 : IOk h.a1 h1 1000000) (hh2 : IOk h.a2 h2 1000000) (hh3 : IOk h.a3 h3 1000000) (hh4 : IOk h.a4 h4 1000000) (hh5 : IOk h.a5 h5 1000000) (hh6 : IOk h.a6 h6 1000000) (hh7 : IOk h.a7 h7 1000000) (hh8 : IOk h.a8 h8 1000000) (hnz : sgnL [h0, h1, h2, h3, h4, h5, h6, h7, h8] ≠ 0) (hd : signI (det3 h0 h1 h2 h3 h4 h5 h6 h7 h8) = 0) : Takes Tryz.prog 47 [(encA31 h)] (.tup [(encA31 (A9.mk (RInt.mk false []) (RInt.mk false []) (RInt.mk false []) (RInt.mk false []) (RInt.mk false []) (RInt.mk false []) (RInt.mk false []) (RInt.mk false []) (RInt.mk false []))), (.val (.bool (false)))]) := by
  let y2 := [h0, h1, h2, h3, h4, h5, h6, h7, h8]
  let y1 := (bx (encA31 (A9.mk (RInt.mk false []) (RInt.mk false []) (RInt.mk false []) (RInt.mk false []) (RInt.mk false []) (RInt.mk false []) (RInt.mk false []) (RInt.mk false []) (RInt.mk false []))))
  refine fn_intro Tryz.func47 rfl cb47 rfl ?_
  show PWp _ _ _ _ ⟨[(0, (.d (encA31 h)))], []⟩
  refine pwp_seq <| kx [(1, (.ref 0 0)), (2, (.ref 1 0))] [(0, some (bx (encA31 h))), (1, some y1)] (zN (oBx 0) <| zN (oAl 1 ze32 zo32) <| zM <| zZ) ?_
  refine pwp_seq <| kx [(4, (vl 30 2 encI [(ofZ (h0.fdiv (dvL y2))), (ofZ (h1.fdiv (dvL y2))), (ofZ (h2.fdiv (dvL y2))), (ofZ (h3.fdiv (dvL y2))), (ofZ (h4.fdiv (dvL y2))), (ofZ (h5.fdiv (dvL y2))), (ofZ (h6.fdiv (dvL y2))), (ofZ (h7.fdiv (dvL y2))), (ofZ (h8.fdiv (dvL y2)))]))] [] (zE (e_slv (by exact rfl) ar32 (by exact rfl) (by kernel_rfl) (by kernel_rfl)) <| zR ⟨(bx (encA31 h)), e_clv (es := List.map encI [h.a0, h.a1, h.a2, h.a3, h.a4, h.a5, h.a6, h.a7, h.a8]) (l_red 1000000 [h.a0, h.a1, h.a2, h.a3, h.a4, h.a5, h.a6, h.a7, h.a8] y2 (.cons hh0 (.cons hh1 (.cons hh2 (.cons hh3 (.cons hh4 (.cons hh5 (.cons hh6 (.cons hh7 (.cons hh8 .nil))))))))) (Nat.le_of_ble_eq_true rfl) hnz) (by exact rfl) (by kernel_rfl) (by exact rfl) (.v .nil) (pubs_cells _ _ (fun _ => rfl)) (by kernel_rfl) (by kernel_rfl) (avo_sl_30 (by decide) (by decide) _), by kernel_rfl⟩ <| zM <| zZ) ?_
  refine pwp_seq <| pwp_seq ?_
  have bn1 : IOk (ofZ (det3 h0 h1 h2 h3 h4 h5 h6 h7 h8)) (det3 h0 h1 h2 h3 h4 h5 h6 h7 h8) 3000003 := (iok_det3 (n := 1000000) (k := 3000003) hh0 hh1 hh2 hh3 hh4 hh5 hh6 hh7 hh8 (by decide))
  refine kd [(18, (vb true))] [] mo (wM <| wE (oNf el40) <| wM <| wR (oLa sh32) <| wE (oCl (l_row0 h h0 h1 h2 h3 h4 h5 h6 h7 h8 (iu hh0) (iu hh1) (iu hh2) (iu hh3) (iu hh4) (iu hh5) (iu hh6) (iu hh7) (iu hh8))) <| wR (oLa sh32) <| wE (oCl (l_row1 h h0 h1 h2 h3 h4 h5 h6 h7 h8 (iu hh0) (iu hh1) (iu hh2) (iu hh3) (iu hh4) (iu hh5) (iu hh6) (iu hh7) (iu hh8))) <| wR (oLa sh32) <| wE (oCl (l_row2 h h0 h1 h2 h3 h4 h5 h6 h7 h8 (iu hh0) (iu hh1) (iu hh2) (iu hh3) (iu hh4) (iu hh5) (iu hh6) (iu hh7) (iu hh8))) <| wE (oCl (l_det (A3.mk h.a0 h.a1 h.a2) h0 h1 h2 hh0 hh1 hh2 (A3.mk h.a3 h.a4 h.a5) h3 h4 h5 hh3 hh4 hh5 (A3.mk h.a6 h.a7 h.a8) h6 h7 h8 hh6 hh7 hh8)) <| wE (oBk true (oCl (l_zero (ofZ (det3 h0 h1 h2 h3 h4 h5 h6 h7 h8)) (det3 h0 h1 h2 h3 h4 h5 h6 h7 h8) (iu bn1))) (by exact beq_iff_eq.2 hd)) <| wE oPf <| wZ) ?_
  refine pwp_cond (b := true) (by kernel_rfl) (fun _ => ?_) (fun h => by cases h)
  refine pwp_seq <| kx [(3, (vb false))] [(1, some y1)] (zE (oBa ar32 ze32 zo32) <| zT (oSt sh32) <| zM <| zZ) ?_
  refine pwp_ret ⟨_, (res_a (cs := (bx (encA31 (A9.mk (RInt.mk false []) (RInt.mk false []) (RInt.mk false []) (RInt.mk false []) (RInt.mk false []) (RInt.mk false []) (RInt.mk false []) (RInt.mk false []) (RInt.mk false []))))) (d := (encA31 (A9.mk (RInt.mk false []) (RInt.mk false []) (RInt.mk false []) (RInt.mk false []) (RInt.mk false []) (RInt.mk false []) (RInt.mk false []) (RInt.mk false []) (RInt.mk false [])))) rfl rfl sh32 rfl rfl (.tmp (d := (.val (.bool (false)))) rfl .nil)), ?_⟩
  rfl
end Go.Proofs.YtadkkhdnccljcaaGreat
