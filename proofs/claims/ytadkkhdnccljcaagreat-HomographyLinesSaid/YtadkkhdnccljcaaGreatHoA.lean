/-
  Functions walked: each takes its data to what is said. Printed by a program of ours.
-/
import Derived.Test.YtadkkhdnccljcaaGreatSemI
import Derived.Test.YtadkkhdnccljcaaGreatHom
import Derived.Test.YtadkkhdnccljcaaGreatAvo
namespace Go.Proofs.YtadkkhdnccljcaaGreat
open Go.Fid
set_option maxRecDepth 4000
set_option linter.unusedVariables false
set_option linter.unusedSimpArgs false
theorem cb45 : callB Tryz.prog 45 = true := by kernel_rfl
theorem cb96 : callB Tryz.prog 96 = true := by kernel_rfl
theorem cb112 : callB Tryz.prog 112 = true := by kernel_rfl
theorem cb113 : callB Tryz.prog 113 = true := by kernel_rfl
theorem cb123 : callB Tryz.prog 123 = true := by kernel_rfl
theorem cb129 : callB Tryz.prog 129 = true := by kernel_rfl
theorem el40 : elemB Tryz.prog 40 = some (30, 2) := by kernel_rfl
theorem d_divisorV (tau : Nat) (l : List RInt) (zs : List Int) (hl : LOk 1000000 l zs) (hb : l.length ≤ 1000000) (hv : List.all l validI = false) : Takes Tryz.prog 123 [(.sl tau 2 (List.map encI l))] (.tup [(encI (RInt.mk false [])), (.val (.bool (false)))]) := by
  have hlen := hl.len
  refine fn_intro Tryz.func123 rfl cb123 rfl ?_
  show PWp _ _ _ _ ⟨[(0, (vl tau 2 encI l))], []⟩
  refine pwp_seq <| kx [(2, (.ref 0 0))] [(0, some (bx (encI (RInt.mk false []))))] (zN (oAl 0 ze30 zo30) <| zM <| zZ) ?_
  refine pwp_seq <| kx [(4, (.ref 1 0))] [(1, some (bx (encI (ofZ 0))))] (zE (oCl (t_of 0 (by decide) (by decide))) <| zN (oAl 1 ze30 zo30) <| zT (oSt sh30) <| zZ) ?_
  refine pwp_seq <| kx [(5, (vin 0))] [] (zM <| zZ) ?_
  refine pwp_seq <| pwp_seq <| kx [(9, (vl tau 2 encI l)), (10, (vin l.length)), (11, (vin 0))] [] (zM <| zE (oLm el40) <| zM <| zZ) ?_
  refine pwp_block <| pwp_loop (α := Nat × Nat × Int) (fun (i, g, s) => ⟨[(2, (.ref 0 0)), (4, (.ref 1 0)), (5, (vi s)), (9, (vl tau 2 encI l)), (10, (vin l.length)), (11, (vin i))], [(0, some (bx (encI (RInt.mk false [])))), (1, some (bx (encI (ofZ ((g : Nat) : Int)))))]⟩) (fun (i, g, s) => i ≤ l.length ∧ g = gcdL (zs.take i) ∧ s = sgnL (zs.take i) ∧ (l.take i).all validI = true) (fun (i, g, s) => l.length - i) (0, 0, 0) wk ⟨Nat.zero_le _, rfl, rfl, by simp⟩ ?_
  rintro ⟨i, g, s⟩ ⟨hi, hgv, hsv, hal⟩
  have hg : IOk (ofZ ((g : Nat) : Int)) ((g : Nat) : Int) 1000000 := by rw [hgv]; exact gcdL_takelen hl.all i
  refine pwp_seq <| kx [(12, (vb (decide (((i : Nat) : Int) < ((l.length : Nat) : Int)))))] [] (zE oLt <| zZ) ?_
  refine pwp_seq <| pwp_cond rfl (fun h1 => ?_) (fun h1 => ?_)
  · replace h1 := of_decide_eq_true h1
    refine pwp_skip <| pwp_seq <| pwp_block <| pwp_seq <| kx [(7, (.ref 2 0))] [(2, some (bx (encI (l.getD i (RInt.mk false [])))))] (zE (oXl el40 i (RInt.mk false [])) <| zE (oCa sh30) <| zN (oAl 2 ze30 zo30) <| zT (oSt sh30) <| zZ) ?_
    refine pwp_seq <| pwp_seq <| kx [(17, (vb (!(validI (l.getD i (RInt.mk false []))))))] [] (zR (oLa sh30) <| zE (oCl (t_valid (l.getD i (RInt.mk false [])) (Nat.le_trans (hl.get i).l (by decide)))) <| zE oNt <| zZ) ?_
    refine pwp_cond (b := !(validI (l.getD i (RInt.mk false [])))) rfl (fun h2 => ?_) (fun h2 => ?_)
    · refine pwp_seq <| kx [(3, (vb false))] [(0, some (bx (encI (RInt.mk false []))))] (zE (oBd pl30 ze30 zo30) <| zT (oSt sh30) <| zM <| zZ) ?_
      refine pwp_ret ⟨_, (res_a (cs := (bx (encI (RInt.mk false [])))) (d := (encI (RInt.mk false []))) rfl rfl sh30 rfl rfl (.tmp (d := (.val (.bool (false)))) rfl .nil)), ?_⟩
      rfl
    · have hvi : validI (l.getD i ⟨false, []⟩) = true := by simpa using h2
      refine pwp_skip <| pwp_seq <| kx [] [(1, some (bx (encI (ofZ ((Int.gcd ((g : Nat) : Int) (zs.getD i 0) : Nat) : Int)))))] (zR (oLa sh30) <| zR (oLa sh30) <| zE (oCl (s_gcd hg (hl.get i) (by decide) (by decide))) <| zT (oSt sh30) <| zZ) ?_
      refine pwp_seq <| kx [(23, (vb (s == 0)))] [] (zM <| zE oEq <| zZ) ?_
      refine pwp_cond (b := (s == 0)) rfl (fun h3 => ?_) (fun h3 => ?_)
      · replace h3 := eq_of_beq h3
        refine kx [(5, (vi (signI (zs.getD i 0))))] [] (zR (oLa sh30) <| zE (oCl (s_sign (hl.get i) (by decide))) <| zM <| zZ) ?_
        refine kx [(11, (vin (i + 1)))] [] (zE (oAd (i + 1)) <| zM <| zZ) ?_
        exact ⟨(i + 1, Int.gcd ((g : Nat) : Int) (zs.getD i 0), signI (zs.getD i 0)), wk, ⟨by omega, by rw [hgv]; exact (gcdL_step (by omega)).symm, sgnL_step0 (by omega) hsv h3, all_take (d := ⟨false, []⟩) (by omega) hal hvi⟩, (by first | omega | (dsimp only; omega))⟩
      · replace h3 := ne_of_beq_false h3
        refine pwp_skip <| kx [(11, (vin (i + 1)))] [] (zE (oAd (i + 1)) <| zM <| zZ) ?_
        exact ⟨(i + 1, Int.gcd ((g : Nat) : Int) (zs.getD i 0), s), wk, ⟨by omega, by rw [hgv]; exact (gcdL_step (by omega)).symm, sgnL_step1 (by omega) hsv h3, all_take (d := ⟨false, []⟩) (by omega) hal hvi⟩, (by first | omega | (dsimp only; omega))⟩
  · replace h1 := of_decide_eq_false h1
    exfalso; have hie : i = l.length := (by omega); rw [hie, List.take_length, hv] at hal; cases hal
theorem d_divisor (tau : Nat) (l : List RInt) (zs : List Int) (hl : LOk 1000000 l zs) (hb : l.length ≤ 1000000) (hv : List.all l validI = true) : Takes Tryz.prog 123 [(.sl tau 2 (List.map encI l))] (.tup [(encI (ofZ (dvL zs))), (.val (.bool ((sgnL zs != 0))))]) := by
  have hlen := hl.len
  refine fn_intro Tryz.func123 rfl cb123 rfl ?_
  show PWp _ _ _ _ ⟨[(0, (vl tau 2 encI l))], []⟩
  refine pwp_seq <| kx [(2, (.ref 0 0))] [(0, some (bx (encI (RInt.mk false []))))] (zN (oAl 0 ze30 zo30) <| zM <| zZ) ?_
  refine pwp_seq <| kx [(4, (.ref 1 0))] [(1, some (bx (encI (ofZ 0))))] (zE (oCl (t_of 0 (by decide) (by decide))) <| zN (oAl 1 ze30 zo30) <| zT (oSt sh30) <| zZ) ?_
  refine pwp_seq <| kx [(5, (vin 0))] [] (zM <| zZ) ?_
  refine pwp_seq <| pwp_seq <| kx [(9, (vl tau 2 encI l)), (10, (vin l.length)), (11, (vin 0))] [] (zM <| zE (oLm el40) <| zM <| zZ) ?_
  refine pwp_block <| pwp_loop (α := Nat × Nat × Int) (fun (i, g, s) => ⟨[(2, (.ref 0 0)), (4, (.ref 1 0)), (5, (vi s)), (9, (vl tau 2 encI l)), (10, (vin l.length)), (11, (vin i))], [(0, some (bx (encI (RInt.mk false [])))), (1, some (bx (encI (ofZ ((g : Nat) : Int)))))]⟩) (fun (i, g, s) => i ≤ l.length ∧ g = gcdL (zs.take i) ∧ s = sgnL (zs.take i)) (fun (i, g, s) => l.length - i) (0, 0, 0) wk ⟨Nat.zero_le _, rfl, rfl⟩ ?_
  rintro ⟨i, g, s⟩ ⟨hi, hgv, hsv⟩
  have hg : IOk (ofZ ((g : Nat) : Int)) ((g : Nat) : Int) 1000000 := by rw [hgv]; exact gcdL_takelen hl.all i
  refine pwp_seq <| kx [(12, (vb (decide (((i : Nat) : Int) < ((l.length : Nat) : Int)))))] [] (zE oLt <| zZ) ?_
  refine pwp_seq <| pwp_cond rfl (fun h1 => ?_) (fun h1 => ?_)
  · replace h1 := of_decide_eq_true h1
    refine pwp_skip <| pwp_seq <| pwp_block <| pwp_seq <| kx [(7, (.ref 2 0))] [(2, some (bx (encI (l.getD i (RInt.mk false [])))))] (zE (oXl el40 i (RInt.mk false [])) <| zE (oCa sh30) <| zN (oAl 2 ze30 zo30) <| zT (oSt sh30) <| zZ) ?_
    refine pwp_seq <| pwp_seq <| kx [(17, (vb false))] [] (zR (oLa sh30) <| zE (oBk true (oCl (t_valid (l.getD i (RInt.mk false [])) (Nat.le_trans (hl.get i).l (by decide)))) (by exact (all_getD hv (by omega)))) <| zE oNt <| zZ) ?_
    refine pwp_cond (b := false) (by kernel_rfl) (fun h => by cases h) (fun _ => ?_)
    refine pwp_skip <| pwp_seq <| kx [] [(1, some (bx (encI (ofZ ((Int.gcd ((g : Nat) : Int) (zs.getD i 0) : Nat) : Int)))))] (zR (oLa sh30) <| zR (oLa sh30) <| zE (oCl (s_gcd hg (hl.get i) (by decide) (by decide))) <| zT (oSt sh30) <| zZ) ?_
    refine pwp_seq <| kx [(23, (vb (s == 0)))] [] (zM <| zE oEq <| zZ) ?_
    refine pwp_cond (b := (s == 0)) rfl (fun h2 => ?_) (fun h2 => ?_)
    · replace h2 := eq_of_beq h2
      refine kx [(5, (vi (signI (zs.getD i 0))))] [] (zR (oLa sh30) <| zE (oCl (s_sign (hl.get i) (by decide))) <| zM <| zZ) ?_
      refine kx [(11, (vin (i + 1)))] [] (zE (oAd (i + 1)) <| zM <| zZ) ?_
      exact ⟨(i + 1, Int.gcd ((g : Nat) : Int) (zs.getD i 0), signI (zs.getD i 0)), wk, ⟨by omega, by rw [hgv]; exact (gcdL_step (by omega)).symm, sgnL_step0 (by omega) hsv h2⟩, (by first | omega | (dsimp only; omega))⟩
    · replace h2 := ne_of_beq_false h2
      refine pwp_skip <| kx [(11, (vin (i + 1)))] [] (zE (oAd (i + 1)) <| zM <| zZ) ?_
      exact ⟨(i + 1, Int.gcd ((g : Nat) : Int) (zs.getD i 0), s), wk, ⟨by omega, by rw [hgv]; exact (gcdL_step (by omega)).symm, sgnL_step1 (by omega) hsv h2⟩, (by first | omega | (dsimp only; omega))⟩
  · replace h1 := of_decide_eq_false h1
    have hie : i = l.length := by omega
    rw [hie, hlen, List.take_length] at hgv hsv
    refine pwp_exit <| pwp_seq <| pwp_seq <| kx [(28, (vb (decide (s < 0))))] [] (zM <| zE oLt <| zZ) ?_
    refine pwp_cond (b := decide (s < 0)) rfl (fun h3 => ?_) (fun h3 => ?_)
    · replace h3 := of_decide_eq_true h3
      refine kx [] [(1, some (bx (encI (ofZ (-((g : Nat) : Int))))))] (zR (oLa sh30) <| zE (oCl (s_neg hg (by decide))) <| zT (oSt sh30) <| zZ) ?_
      refine pwp_seq <| kx [(3, (vb (s != 0)))] [(0, some (bx (encI (ofZ (-((g : Nat) : Int))))))] (zR (oLa sh30) <| zM <| zE oNe <| zT (oSt sh30) <| zM <| zZ) ?_
      refine pwp_ret ⟨_, (res_a (cs := (bx (encI (ofZ (-((g : Nat) : Int)))))) (d := (encI (ofZ (-((g : Nat) : Int))))) rfl rfl sh30 rfl rfl (.tmp (d := (.val (.bool ((s != 0))))) rfl .nil)), ?_⟩
      rw [dv_neg hsv hgv h3, ← hsv]; rfl
    · replace h3 := of_decide_eq_false h3
      refine pwp_skip <| pwp_seq <| kx [(3, (vb (s != 0)))] [(0, some (bx (encI (ofZ ((g : Nat) : Int)))))] (zR (oLa sh30) <| zM <| zE oNe <| zT (oSt sh30) <| zM <| zZ) ?_
      refine pwp_ret ⟨_, (res_a (cs := (bx (encI (ofZ ((g : Nat) : Int))))) (d := (encI (ofZ ((g : Nat) : Int)))) rfl rfl sh30 rfl rfl (.tmp (d := (.val (.bool ((s != 0))))) rfl .nil)), ?_⟩
      rw [dv_pos hsv hgv h3, ← hsv]; rfl
theorem d_isredT (tau : Nat) (l : List RInt) (zs : List Int) (hl : LOk 1000000 l zs) (hb : l.length ≤ 1000000) (hv : List.all l validI = true) : Takes Tryz.prog 96 [(.sl tau 2 (List.map encI l))] (.val (.bool (((sgnL zs != 0) && (cmpI (dvL zs) 1 == 0))))) := by
  refine fn_intro Tryz.func96 rfl cb96 rfl ?_
  show PWp _ _ _ _ ⟨[(0, (vl tau 2 encI l))], []⟩
  refine pwp_seq <| kx [] [] (zM <| zZ) ?_
  refine pwp_seq <| kx [(3, (.ref 0 0)), (4, (vb (sgnL zs != 0)))] [(0, some (bx (encI (ofZ (dvL zs)))))] (zM <| zE (oCl (d_divisor tau l zs hl hb hv)) <| zM <| zE oEx <| zE oEx <| zN (oAl 0 ze30 zo30) <| zT (oSt sh30) <| zM <| zZ) ?_
  refine pwp_seq <| kd [(2, (vb ((sgnL zs != 0) && ((cmpI (dvL zs) 1) == 0))))] [] mo ?_ ?_
  · refine wM <| wE (oV (vb (sgnL zs != 0)) (mv_ok (by kernel_rfl))) <| ?_
    rcases hb1 : (sgnL zs != 0) with _ | _
    · replace hb1 := bne_eq_false_iff_eq.1 hb1
      exact wK <| wK <| wK <| wK <| wE oPf <| wM <| wZ
    · replace hb1 := bne_iff_ne.1 hb1
      exact wR (oLa sh30) <| wE (oCl (t_of 1 (by decide) (by decide))) <| wE (oCl (s_compare (iok_of (dvL_len (LOk.all (n := 1000000) hl))) (iok_small (z := 1) (by decide)) (by decide) (by decide))) <| wE oEq <| wE oPa <| wM <| wZ
  refine pwp_ret ⟨_, (.tmp (d := (.val (.bool (((sgnL zs != 0) && ((cmpI (dvL zs) 1) == 0)))))) rfl .nil), ?_⟩
  rfl
theorem d_isredF (tau : Nat) (l : List RInt) (zs : List Int) (hl : LOk 1000000 l zs) (hb : l.length ≤ 1000000) (hv : List.all l validI = false) : Takes Tryz.prog 96 [(.sl tau 2 (List.map encI l))] (.val (.bool (false))) := by
  refine fn_intro Tryz.func96 rfl cb96 rfl ?_
  show PWp _ _ _ _ ⟨[(0, (vl tau 2 encI l))], []⟩
  refine pwp_seq <| kx [] [] (zM <| zZ) ?_
  refine pwp_seq <| kx [(3, (.ref 0 0)), (4, (vb false))] [(0, some (bx (encI (RInt.mk false []))))] (zM <| zE (oCl (d_divisorV tau l zs hl hb hv)) <| zM <| zE oEx <| zE oEx <| zN (oAl 0 ze30 zo30) <| zT (oSt sh30) <| zM <| zZ) ?_
  refine pwp_seq <| kd [(2, (vb false))] [] mo (wM <| wM <| wK <| wK <| wK <| wK <| wE oPf <| wM <| wZ) ?_
  refine pwp_ret ⟨_, (.tmp (d := (.val (.bool (false)))) rfl .nil), ?_⟩
  rfl
theorem d_isred (tau : Nat) (l : List RInt) (zs : List Int) (hl : LOk 1000000 l zs) (hb : l.length ≤ 1000000) : Takes Tryz.prog 96 [.sl tau 2 (List.map encI l)] (.val (.bool (redB l))) := by
  rcases hv : List.all l validI with _ | _
  · have h := d_isredF tau l zs hl hb hv
    rw [show redB l = false from by unfold redB; rw [hv]; rfl]; exact h
  · have h := d_isredT tau l zs hl hb hv
    rw [show redB l = ((sgnL zs != 0) && (cmpI (dvL zs) 1 == 0)) from redB_eq hl hv]; exact h
theorem d_sum (tau : Nat) (l : List RInt) (zs : List Int) (hl : LOk 4000000000 l zs) (hb : l.length ≤ 1000) : Takes Tryz.prog 129 [(.sl tau 2 (List.map encI l))] (encI (ofZ (sumL zs))) := by
  have hlen := hl.len
  refine fn_intro Tryz.func129 rfl cb129 rfl ?_
  show PWp _ _ _ _ ⟨[(0, (vl tau 2 encI l))], []⟩
  refine pwp_seq <| kx [(2, (.ref 0 0))] [(0, some (bx (encI (RInt.mk false []))))] (zN (oAl 0 ze30 zo30) <| zZ) ?_
  refine pwp_seq <| kx [(3, (.ref 1 0))] [(1, some (bx (encI (ofZ 0))))] (zE (oCl (t_of 0 (by decide) (by decide))) <| zN (oAl 1 ze30 zo30) <| zT (oSt sh30) <| zZ) ?_
  refine pwp_seq <| pwp_seq <| kx [(7, (vl tau 2 encI l)), (8, (vin l.length)), (9, (vin 0))] [] (zM <| zE (oLm el40) <| zM <| zZ) ?_
  refine pwp_block <| pwp_loop (α := Nat × Int) (fun (i, s) => ⟨[(2, (.ref 0 0)), (3, (.ref 1 0)), (7, (vl tau 2 encI l)), (8, (vin l.length)), (9, (vin i))], [(0, some (bx (encI (RInt.mk false [])))), (1, some (bx (encI (ofZ s))))]⟩) (fun (i, s) => i ≤ l.length ∧ s = sumL (zs.take i)) (fun (i, s) => l.length - i) (0, 0) wk ⟨Nat.zero_le _, rfl⟩ ?_
  rintro ⟨i, s⟩ ⟨hi, hsv⟩
  have hg : IOk (ofZ s) s 5000000000 := by rw [hsv]; exact iok_up (iok_of (sumL_len hl.all (by omega))) (by decide)
  refine pwp_seq <| kx [(10, (vb (decide (((i : Nat) : Int) < ((l.length : Nat) : Int)))))] [] (zE oLt <| zZ) ?_
  refine pwp_seq <| pwp_cond rfl (fun h1 => ?_) (fun h1 => ?_)
  · replace h1 := of_decide_eq_true h1
    refine pwp_skip <| pwp_seq <| pwp_block <| pwp_seq <| kx [(5, (.ref 2 0))] [(2, some (bx (encI (l.getD i (RInt.mk false [])))))] (zE (oXl el40 i (RInt.mk false [])) <| zE (oCa sh30) <| zN (oAl 2 ze30 zo30) <| zT (oSt sh30) <| zZ) ?_
    refine kx [] [(1, some (bx (encI (ofZ (s + (zs.getD i 0))))))] (zR (oLa sh30) <| zR (oLa sh30) <| zE (oCl (s_add hg (hl.get i) (by decide) (by decide))) <| zT (oSt sh30) <| zZ) ?_
    refine kx [(9, (vin (i + 1)))] [] (zE (oAd (i + 1)) <| zM <| zZ) ?_
    exact ⟨(i + 1, (s + (zs.getD i 0))), wk, ⟨by omega, by rw [hsv]; exact (sumL_step (by omega)).symm⟩, (by first | omega | (dsimp only; omega))⟩
  · replace h1 := of_decide_eq_false h1
    have hie : i = l.length := by omega
    rw [hie, hlen, List.take_length] at hsv
    refine pwp_exit <| pwp_seq <| kx [] [(0, some (bx (encI (ofZ s))))] (zR (oLa sh30) <| zT (oSt sh30) <| zZ) ?_
    refine pwp_ret ⟨_, (res_a (cs := (bx (encI (ofZ s)))) (d := (encI (ofZ s))) rfl rfl sh30 rfl rfl .nil), ?_⟩
    rw [hsv]; rfl
theorem l_plus (x : RInt) (a : Int) (hx : IOk x a 4000000000) (y : RInt) (b : Int) (hy : IOk y b 4000000000) : Takes Tryz.prog 113 [(encI x), (encI y)] (encI (ofZ (a + b))) := by
  refine fn_intro Tryz.func113 rfl cb113 rfl ?_
  show PWp _ _ _ _ ⟨[(0, (.d (encI x))), (1, (.d (encI y)))], []⟩
  refine pwp_seq <| kx [(2, (.ref 0 0)), (3, (.ref 1 0)), (4, (.ref 2 0))] [(0, some (bx (encI x))), (1, some (bx (encI y))), (2, some (bx (encI (RInt.mk false []))))] (zN (oBx 0) <| zN (oBx 1) <| zN (oAl 2 ze30 zo30) <| zZ) ?_
  refine pwp_seq <| kx [] [(2, some (bx (encI (ofZ (a + b)))))] (zR (oLa sh30) <| zR (oLa sh30) <| zE (oCl (rs_add hx hy (by decide) (by decide))) <| zT (oSt sh30) <| zZ) ?_
  refine pwp_ret ⟨_, (res_a (cs := (bx (encI (ofZ (a + b))))) (d := (encI (ofZ (a + b)))) rfl rfl sh30 rfl rfl .nil), ?_⟩
  rfl
theorem l_minus (x : RInt) (a : Int) (hx : IOk x a 4000000000) (y : RInt) (b : Int) (hy : IOk y b 4000000000) : Takes Tryz.prog 112 [(encI x), (encI y)] (encI (ofZ (a - b))) := by
  refine fn_intro Tryz.func112 rfl cb112 rfl ?_
  show PWp _ _ _ _ ⟨[(0, (.d (encI x))), (1, (.d (encI y)))], []⟩
  refine pwp_seq <| kx [(2, (.ref 0 0)), (3, (.ref 1 0)), (4, (.ref 2 0))] [(0, some (bx (encI x))), (1, some (bx (encI y))), (2, some (bx (encI (RInt.mk false []))))] (zN (oBx 0) <| zN (oBx 1) <| zN (oAl 2 ze30 zo30) <| zZ) ?_
  refine pwp_seq <| kx [] [(2, some (bx (encI (ofZ (a - b)))))] (zR (oLa sh30) <| zR (oLa sh30) <| zE (oCl (rs_sub hx hy (by decide) (by decide))) <| zT (oSt sh30) <| zZ) ?_
  refine pwp_ret ⟨_, (res_a (cs := (bx (encI (ofZ (a - b))))) (d := (encI (ofZ (a - b)))) rfl rfl sh30 rfl rfl .nil), ?_⟩
  rfl
theorem l_times (x : RInt) (a : Int) (hx : IOk x a 4000000000) (y : RInt) (b : Int) (hy : IOk y b 4000000000) : Takes Tryz.prog 45 [(encI x), (encI y)] (encI (ofZ (a * b))) := by
  refine fn_intro Tryz.func45 rfl cb45 rfl ?_
  show PWp _ _ _ _ ⟨[(0, (.d (encI x))), (1, (.d (encI y)))], []⟩
  refine pwp_seq <| kx [(2, (.ref 0 0)), (3, (.ref 1 0)), (4, (.ref 2 0))] [(0, some (bx (encI x))), (1, some (bx (encI y))), (2, some (bx (encI (RInt.mk false []))))] (zN (oBx 0) <| zN (oBx 1) <| zN (oAl 2 ze30 zo30) <| zZ) ?_
  refine pwp_seq <| kx [] [(2, some (bx (encI (ofZ (a * b)))))] (zR (oLa sh30) <| zR (oLa sh30) <| zE (oCl (rs_mul hx hy (by decide) (by decide))) <| zT (oSt sh30) <| zZ) ?_
  refine pwp_ret ⟨_, (res_a (cs := (bx (encI (ofZ (a * b))))) (d := (encI (ofZ (a * b)))) rfl rfl sh30 rfl rfl .nil), ?_⟩
  rfl
end Go.Proofs.YtadkkhdnccljcaaGreat
