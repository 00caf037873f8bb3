/- Part 11 of a proof: rules, plain facts, and functions walked. -/
import Derived.Test.YtadkkhdnccljcaaGreatM10
import Derived.Test.YtadkkhdnccljcaaGreatM8
namespace Go.Proofs.YtadkkhdnccljcaaGreat
open Go.Fid
set_option maxRecDepth 4000
set_option linter.unusedVariables false
set_option linter.unusedSimpArgs false
theorem by30 : bytesB Tryz.prog 30 = some 32 := by kernel_rfl
theorem cb17 : callB Tryz.prog 17 = true := by kernel_rfl
theorem cb23 : callB Tryz.prog 23 = true := by kernel_rfl
theorem cb24 : callB Tryz.prog 24 = true := by kernel_rfl
theorem cb40 : callB Tryz.prog 40 = true := by kernel_rfl
theorem cb44 : callB Tryz.prog 44 = true := by kernel_rfl
theorem cb54 : callB Tryz.prog 54 = true := by kernel_rfl
theorem cb74 : callB Tryz.prog 74 = true := by kernel_rfl
theorem cb80 : callB Tryz.prog 80 = true := by kernel_rfl
theorem cb81 : callB Tryz.prog 81 = true := by kernel_rfl
theorem cb107 : callB Tryz.prog 107 = true := by kernel_rfl
theorem r_same (x y : RInt) (hx : x.gs.length ≤ 1099511627776) (hy : y.gs.length ≤ 1099511627776) : Takes Tryz.prog 74 [(encI x), (encI y)] (.val (.bool ((sameI x y)))) := by
  refine fn_intro Tryz.func74 rfl cb74 rfl ?_
  show PWp _ _ _ _ ⟨[(0, (.d (encI x))), (1, (.d (encI y)))], []⟩
  refine pwp_seq <| kx [(2, (.ref 0 0)), (3, (.ref 1 0))] [(0, some (bx (encI x))), (1, some (bx (encI y)))] (zN (oBx 0) <| zN (oBx 1) <| zM <| zZ) ?_
  refine pwp_seq <| pwp_seq <| kx [(19, (vb (!(x.neg == y.neg) || (((x.gs.length : Nat) : Int) != ((y.gs.length : Nat) : Int)))))] [] ?_ ?_
  · refine zE (oFr fo30_0) <| zR (oL1 sh4) <| zE (oFr fo30_0) <| zR (oL1 sh4) <| zE (oNb bo4) <| zE (oV (vb (!(x.neg == y.neg))) (mv_ok (by kernel_rfl))) <| ?_
    rcases hb1 : (!(x.neg == y.neg)) with _ | _
    · exact zE (oFr fo30_1) <| zR (oL1 sh28) <| zE (oLm el28) <| zE (oFr fo30_1) <| zR (oL1 sh28) <| zE (oLm el28) <| zE oNe <| zE oPo <| zZ
    · exact zK <| zK <| zK <| zK <| zK <| zK <| zK <| zE oPt <| zZ
  refine pwp_cond rfl (fun h2 => ?_) (fun h2 => ?_)
  · refine pwp_seq <| kx [(4, (vb false))] [] (zM <| zZ) ?_
    refine pwp_ret ⟨_, (.tmp (d := (.val (.bool (false)))) rfl .nil), ?_⟩
    rw [same_no1 h2]; rfl
  · obtain ⟨hn1, hn2⟩ := same_head h2
    refine pwp_skip <| pwp_seq <| pwp_seq <| kx [(5, (vin 0))] [] (zM <| zZ) ?_
    refine pwp_block <| pwp_loop (α := Nat) (fun i => ⟨[(2, (.ref 0 0)), (3, (.ref 1 0)), (5, (vin i))], [(0, some (bx (encI x))), (1, some (bx (encI y)))]⟩) (fun i => i ≤ x.gs.length ∧ x.gs.take i = y.gs.take i) (fun i => x.gs.length - i) 0 wk ⟨Nat.zero_le _, by simp⟩ ?_
    rintro i ⟨hi, hv⟩
    refine pwp_seq <| pwp_seq <| kx [(24, (vb (decide (((i : Nat) : Int) < ((x.gs.length : Nat) : Int)))))] [] (zM <| zE (oFr fo30_1) <| zR (oL1 sh28) <| zE (oLm el28) <| zE oLt <| zZ) ?_
    refine pwp_cond rfl (fun h3 => ?_) (fun h3 => ?_)
    · replace h3 := of_decide_eq_true h3
      refine pwp_skip <| pwp_seq <| pwp_block <| pwp_seq <| kd [(37, (vb ((((x.gs.getD i 0) : Nat) : Int) != (((y.gs.getD i 0) : Nat) : Int))))] [] mo (wE (oFr fo30_1) <| wR (oL1 sh28) <| wM <| wE (oXl el28 i (0 : Nat)) <| wE (oC1 sh138) <| wE (oFr fo30_1) <| wR (oL1 sh28) <| wM <| wE (oXl el28 i (0 : Nat)) <| wE (oC1 sh138) <| wE oNe <| wZ) ?_
      refine pwp_cond rfl (fun h4 => ?_) (fun h4 => ?_)
      · replace h4 := bne_iff_ne.1 h4
        refine pwp_seq <| kx [(4, (vb false))] [] (zM <| zZ) ?_
        refine pwp_ret ⟨_, (.tmp (d := (.val (.bool (false)))) rfl .nil), ?_⟩
        rw [same_no2 (by omega) h4]; rfl
      · replace h4 := bne_eq_false_iff_eq.1 h4
        refine pwp_skip <| kx [(5, (vin (i + 1)))] [] (zM <| zE (oAd (i + 1)) <| zM <| zZ) ?_
        exact ⟨(i + 1), wk, ⟨by omega, take_same (by omega) (by omega) hv h4⟩, (by first | omega | (dsimp only; omega))⟩
    · replace h3 := of_decide_eq_false h3
      have hie : i = x.gs.length := by omega
      rw [hie, List.take_length] at hv
      rw [List.take_of_length_le (by omega)] at hv
      refine pwp_exit <| pwp_seq <| kx [(4, (vb true))] [] (zM <| zZ) ?_
      refine pwp_ret ⟨_, (.tmp (d := (.val (.bool (true)))) rfl .nil), ?_⟩
      rw [same_yes hn1 hv]; rfl
theorem l_wholeI (n : Int) (hlo : -9223372036854775808 ≤ n) (hhi : n ≤ 9223372036854775807) : Takes Tryz.prog 44 [(.val (.int .i64 (n)))] (encI (ofZ n)) := by
  refine fn_intro Tryz.func44 rfl cb44 rfl ?_
  show PWp _ _ _ _ ⟨[(0, (vi n))], []⟩
  refine pwp_seq <| kx [(2, (.ref 0 0))] [(0, some (bx (encI (RInt.mk false []))))] (zN (oAl 0 ze30 zo30) <| zZ) ?_
  refine pwp_seq <| kx [] [(0, some (bx (encI (ofZ n))))] (zM <| zE (oCl (r_of n (by omega) (by omega))) <| zT (oSt sh30) <| zZ) ?_
  refine pwp_ret ⟨_, (res_a (cs := (bx (encI (ofZ n)))) (d := (encI (ofZ n))) rfl rfl sh30 rfl rfl .nil), ?_⟩
  rfl
theorem l_zero (x : RInt) (a : Int) (hx : IOk x a 5000000000) : Takes Tryz.prog 40 [(encI x)] (.val (.bool ((signI a == 0)))) := by
  refine fn_intro Tryz.func40 rfl cb40 rfl ?_
  show PWp _ _ _ _ ⟨[(0, (.d (encI x)))], []⟩
  refine pwp_seq <| kx [(1, (.ref 0 0))] [(0, some (bx (encI x)))] (zN (oBx 0) <| zM <| zZ) ?_
  refine pwp_seq <| kx [(2, (vb ((signI a) == 0)))] [] (zR (oLa sh30) <| zE (oCl (rs_sign hx (by decide))) <| zE oEq <| zM <| zZ) ?_
  refine pwp_ret ⟨_, (.tmp (d := (.val (.bool (((signI a) == 0))))) rfl .nil), ?_⟩
  rfl
theorem l_det (p : A3 RInt) (p0 p1 p2 : Int) (hp0 : IOk p.a0 p0 1000000) (hp1 : IOk p.a1 p1 1000000) (hp2 : IOk p.a2 p2 1000000) (q : A3 RInt) (q0 q1 q2 : Int) (hq0 : IOk q.a0 q0 1000000) (hq1 : IOk q.a1 q1 1000000) (hq2 : IOk q.a2 q2 1000000) (r : A3 RInt) (r0 r1 r2 : Int) (hr0 : IOk r.a0 r0 1000000) (hr1 : IOk r.a1 r1 1000000) (hr2 : IOk r.a2 r2 1000000) : Takes Tryz.prog 81 [(encA43 p), (encA43 q), (encA43 r)] (encI (ofZ (det3 p0 p1 p2 q0 q1 q2 r0 r1 r2))) := by
  refine fn_intro Tryz.func81 rfl cb81 rfl ?_
  show PWp _ _ _ _ ⟨[(0, (.d (encA43 p))), (1, (.d (encA43 q))), (2, (.d (encA43 r)))], []⟩
  refine pwp_seq <| kx [(3, (.ref 0 0)), (4, (.ref 1 0)), (5, (.ref 2 0)), (6, (.ref 3 0))] [(0, some (bx (encA43 p))), (1, some (bx (encA43 q))), (2, some (bx (encA43 r))), (3, some (bx (encI (RInt.mk false []))))] (zN (oBx 0) <| zN (oBx 1) <| zN (oBx 2) <| zN (oAl 3 ze30 zo30) <| zZ) ?_
  refine pwp_seq ?_
  have bn1 : IOk (ofZ ((q1 * r2) - (q2 * r1))) ((q1 * r2) - (q2 * r1)) 2000001 := (iok_sub (k := 2000001) (iok_mul (k := 2000000) hq1 hr2 (by decide)) (iok_mul (k := 2000000) hq2 hr1 (by decide)) (by decide))
  have bn2 : IOk (ofZ ((q2 * r0) - (q0 * r2))) ((q2 * r0) - (q0 * r2)) 2000001 := (iok_sub (k := 2000001) (iok_mul (k := 2000000) hq2 hr0 (by decide)) (iok_mul (k := 2000000) hq0 hr2 (by decide)) (by decide))
  have bn3 : IOk (ofZ ((q0 * r1) - (q1 * r0))) ((q0 * r1) - (q1 * r0)) 2000001 := (iok_sub (k := 2000001) (iok_mul (k := 2000000) hq0 hr1 (by decide)) (iok_mul (k := 2000000) hq1 hr0 (by decide)) (by decide))
  have bn4 : IOk (ofZ (((p0 * ((q1 * r2) - (q2 * r1))) + (p1 * ((q2 * r0) - (q0 * r2)))) + (p2 * ((q0 * r1) - (q1 * r0))))) (((p0 * ((q1 * r2) - (q2 * r1))) + (p1 * ((q2 * r0) - (q0 * r2)))) + (p2 * ((q0 * r1) - (q1 * r0)))) 3000003 := (iok_add (k := 3000003) (iok_add (k := 3000002) (iok_mul (k := 3000001) hp0 bn1 (by decide)) (iok_mul (k := 3000001) hp1 bn2 (by decide)) (by decide)) (iok_mul (k := 3000001) hp2 bn3 (by decide)) (by decide))
  refine kd [] [(3, some (bx (encI (ofZ (((p0 * ((q1 * r2) - (q2 * r1))) + (p1 * ((q2 * r0) - (q0 * r2)))) + (p2 * ((q0 * r1) - (q1 * r0))))))))] mo (wR (oLa sh44) <| wR (oLa sh44) <| wR (oLa sh44) <| wE (oCl (l_cross q q0 q1 q2 (iu hq0) (iu hq1) (iu hq2) r r0 r1 r2 (iu hr0) (iu hr1) (iu hr2))) <| wE (oCl (l_dot p p0 p1 p2 (iu hp0) (iu hp1) (iu hp2) (A3.mk (ofZ ((q1 * r2) - (q2 * r1))) (ofZ ((q2 * r0) - (q0 * r2))) (ofZ ((q0 * r1) - (q1 * r0)))) ((q1 * r2) - (q2 * r1)) ((q2 * r0) - (q0 * r2)) ((q0 * r1) - (q1 * r0)) (iu bn1) (iu bn2) (iu bn3))) <| wT (oSt sh30) <| wZ) ?_
  refine pwp_ret ⟨_, (res_a (cs := (bx (encI (ofZ (((p0 * ((q1 * r2) - (q2 * r1))) + (p1 * ((q2 * r0) - (q0 * r2)))) + (p2 * ((q0 * r1) - (q1 * r0)))))))) (d := (encI (ofZ (((p0 * ((q1 * r2) - (q2 * r1))) + (p1 * ((q2 * r0) - (q0 * r2)))) + (p2 * ((q0 * r1) - (q1 * r0))))))) rfl rfl sh30 rfl rfl .nil), ?_⟩
  rfl
theorem l_redN (tau : Nat) (l : List RInt) (zs : List Int) (hl : LOk 1000000 l zs) (hb : l.length ≤ 1000000) (hnz : sgnL zs = 0) : Takes Tryz.prog 107 [(.sl tau 2 (List.map encI l))] (.val (.slice none 0 0)) := by
  have hlen := hl.len
  refine fn_intro Tryz.func107 rfl cb107 rfl ?_
  show PWp _ _ _ _ ⟨[(0, (vl tau 2 encI l))], []⟩
  refine pwp_seq <| kx [] [] (zM <| zZ) ?_
  refine pwp_seq <| kx [(3, (.ref 0 0))] [(0, some (bx (encI (ofZ 0))))] (zE (oCl (l_wholeI 0 (by decide) (by decide))) <| zN (oAl 0 ze30 zo30) <| zT (oSt sh30) <| zZ) ?_
  refine pwp_seq <| kx [(4, (vin 0))] [] (zM <| zZ) ?_
  refine pwp_seq <| pwp_seq <| kx [(14, (vl tau 2 encI l)), (15, (vin l.length)), (16, (vin 0))] [] (zM <| zE (oLm el40) <| zM <| zZ) ?_
  refine pwp_block <| pwp_loop (α := Nat × Nat × Int) (fun (i, g, s) => ⟨[(0, (vl tau 2 encI l)), (3, (.ref 0 0)), (4, (vi s)), (14, (vl tau 2 encI l)), (15, (vin l.length)), (16, (vin i))], [(0, some (bx (encI (ofZ ((g : Nat) : Int)))))]⟩) (fun (i, g, s) => i ≤ l.length ∧ g = gcdL (zs.take i) ∧ s = sgnL (zs.take i)) (fun (i, g, s) => l.length - i) (0, 0, 0) wk ⟨Nat.zero_le _, rfl, rfl⟩ ?_
  rintro ⟨i, g, s⟩ ⟨hi, hgv, hsv⟩
  have hg : IOk (ofZ ((g : Nat) : Int)) ((g : Nat) : Int) 1000000 := by rw [hgv]; exact gcdL_takelen hl.all i
  refine pwp_seq <| kx [(17, (vb (decide (((i : Nat) : Int) < ((l.length : Nat) : Int)))))] [] (zE oLt <| zZ) ?_
  refine pwp_seq <| pwp_cond rfl (fun h1 => ?_) (fun h1 => ?_)
  · replace h1 := of_decide_eq_true h1
    refine pwp_skip <| pwp_seq <| pwp_block <| pwp_seq <| kx [(6, (.ref 1 0))] [(1, some (bx (encI (l.getD i (RInt.mk false [])))))] (zE (oXl el40 i (RInt.mk false [])) <| zE (oCa sh30) <| zN (oAl 1 ze30 zo30) <| zT (oSt sh30) <| zZ) ?_
    refine pwp_seq <| kx [] [(0, some (bx (encI (ofZ ((Int.gcd ((g : Nat) : Int) (zs.getD i 0) : Nat) : Int)))))] (zR (oLa sh30) <| zR (oLa sh30) <| zE (oCl (rs_gcd hg (hl.get i) (by decide) (by decide))) <| zT (oSt sh30) <| zZ) ?_
    refine pwp_seq <| kx [(24, (vb (s == 0)))] [] (zM <| zE oEq <| zZ) ?_
    refine pwp_cond (b := (s == 0)) rfl (fun h2 => ?_) (fun h2 => ?_)
    · replace h2 := eq_of_beq h2
      refine kx [(4, (vi (signI (zs.getD i 0))))] [] (zR (oLa sh30) <| zE (oCl (rs_sign (hl.get i) (by decide))) <| zM <| zZ) ?_
      refine kx [(16, (vin (i + 1)))] [] (zE (oAd (i + 1)) <| zM <| zZ) ?_
      exact ⟨(i + 1, Int.gcd ((g : Nat) : Int) (zs.getD i 0), signI (zs.getD i 0)), wk, ⟨by omega, by rw [hgv]; exact (gcdL_step (by omega)).symm, sgnL_step0 (by omega) hsv h2⟩, (by first | omega | (dsimp only; omega))⟩
    · replace h2 := ne_of_beq_false h2
      refine pwp_skip <| kx [(16, (vin (i + 1)))] [] (zE (oAd (i + 1)) <| zM <| zZ) ?_
      exact ⟨(i + 1, Int.gcd ((g : Nat) : Int) (zs.getD i 0), s), wk, ⟨by omega, by rw [hgv]; exact (gcdL_step (by omega)).symm, sgnL_step1 (by omega) hsv h2⟩, (by first | omega | (dsimp only; omega))⟩
  · replace h1 := of_decide_eq_false h1
    have hie : i = l.length := by omega
    rw [hie, hlen, List.take_length] at hgv hsv
    refine pwp_exit <| pwp_seq <| pwp_seq <| kx [(29, (vb (s == 0)))] [] (zM <| zE oEq <| zZ) ?_
    refine pwp_cond (b := (s == 0)) rfl (fun h3 => ?_) (fun h3 => ?_)
    · replace h3 := eq_of_beq h3
      refine pwp_seq <| kx [(2, (.d (.val (.slice none 0 0))))] [] (zM <| zZ) ?_
      refine pwp_ret ⟨_, (.tmp (d := (.val (.slice none 0 0))) rfl .nil), ?_⟩
      rfl
    · replace h3 := ne_of_beq_false h3
      exact absurd (hsv.trans hnz) h3
theorem l_red (tau : Nat) (l : List RInt) (zs : List Int) (hl : LOk 1000000 l zs) (hb : l.length ≤ 1000000) (hnz : sgnL zs ≠ 0) : Takes Tryz.prog 107 [(.sl tau 2 (List.map encI l))] (.sl 30 2 (List.map encI (List.map ofZ (redL zs)))) := by
  have hlen := hl.len
  refine fn_intro Tryz.func107 rfl cb107 rfl ?_
  show PWp _ _ _ _ ⟨[(0, (vl tau 2 encI l))], []⟩
  refine pwp_seq <| kx [] [] (zE (oNl 30 2) <| zZ) ?_
  refine pwp_seq <| kx [(3, (.ref 0 0))] [(0, some (bx (encI (ofZ 0))))] (zE (oCl (l_wholeI 0 (by decide) (by decide))) <| zN (oAl 0 ze30 zo30) <| zT (oSt sh30) <| zZ) ?_
  refine pwp_seq <| kx [(4, (vin 0))] [] (zM <| zZ) ?_
  refine pwp_seq <| pwp_seq <| kx [(14, (vl tau 2 encI l)), (15, (vin l.length)), (16, (vin 0))] [] (zM <| zE (oLm el40) <| zM <| zZ) ?_
  refine pwp_block <| pwp_loop (α := Nat × Nat × Int) (fun (i, g, s) => ⟨[(0, (vl tau 2 encI l)), (3, (.ref 0 0)), (4, (vi s)), (14, (vl tau 2 encI l)), (15, (vin l.length)), (16, (vin i))], [(0, some (bx (encI (ofZ ((g : Nat) : Int)))))]⟩) (fun (i, g, s) => i ≤ l.length ∧ g = gcdL (zs.take i) ∧ s = sgnL (zs.take i)) (fun (i, g, s) => l.length - i) (0, 0, 0) wk ⟨Nat.zero_le _, rfl, rfl⟩ ?_
  rintro ⟨i, g, s⟩ ⟨hi, hgv, hsv⟩
  have hg : IOk (ofZ ((g : Nat) : Int)) ((g : Nat) : Int) 1000000 := by rw [hgv]; exact gcdL_takelen hl.all i
  refine pwp_seq <| kx [(17, (vb (decide (((i : Nat) : Int) < ((l.length : Nat) : Int)))))] [] (zE oLt <| zZ) ?_
  refine pwp_seq <| pwp_cond rfl (fun h1 => ?_) (fun h1 => ?_)
  · replace h1 := of_decide_eq_true h1
    refine pwp_skip <| pwp_seq <| pwp_block <| pwp_seq <| kx [(6, (.ref 1 0))] [(1, some (bx (encI (l.getD i (RInt.mk false [])))))] (zE (oXl el40 i (RInt.mk false [])) <| zE (oCa sh30) <| zN (oAl 1 ze30 zo30) <| zT (oSt sh30) <| zZ) ?_
    refine pwp_seq <| kx [] [(0, some (bx (encI (ofZ ((Int.gcd ((g : Nat) : Int) (zs.getD i 0) : Nat) : Int)))))] (zR (oLa sh30) <| zR (oLa sh30) <| zE (oCl (rs_gcd hg (hl.get i) (by decide) (by decide))) <| zT (oSt sh30) <| zZ) ?_
    refine pwp_seq <| kx [(24, (vb (s == 0)))] [] (zM <| zE oEq <| zZ) ?_
    refine pwp_cond (b := (s == 0)) rfl (fun h2 => ?_) (fun h2 => ?_)
    · replace h2 := eq_of_beq h2
      refine kx [(4, (vi (signI (zs.getD i 0))))] [] (zR (oLa sh30) <| zE (oCl (rs_sign (hl.get i) (by decide))) <| zM <| zZ) ?_
      refine kx [(16, (vin (i + 1)))] [] (zE (oAd (i + 1)) <| zM <| zZ) ?_
      exact ⟨(i + 1, Int.gcd ((g : Nat) : Int) (zs.getD i 0), signI (zs.getD i 0)), wk, ⟨by omega, by rw [hgv]; exact (gcdL_step (by omega)).symm, sgnL_step0 (by omega) hsv h2⟩, (by first | omega | (dsimp only; omega))⟩
    · replace h2 := ne_of_beq_false h2
      refine pwp_skip <| kx [(16, (vin (i + 1)))] [] (zE (oAd (i + 1)) <| zM <| zZ) ?_
      exact ⟨(i + 1, Int.gcd ((g : Nat) : Int) (zs.getD i 0), s), wk, ⟨by omega, by rw [hgv]; exact (gcdL_step (by omega)).symm, sgnL_step1 (by omega) hsv h2⟩, (by first | omega | (dsimp only; omega))⟩
  · replace h1 := of_decide_eq_false h1
    have hie : i = l.length := by omega
    rw [hie, hlen, List.take_length] at hgv hsv
    refine pwp_exit <| pwp_seq <| pwp_seq <| kx [(29, (vb (s == 0)))] [] (zM <| zE oEq <| zZ) ?_
    refine pwp_cond (b := (s == 0)) rfl (fun h3 => ?_) (fun h3 => ?_)
    · replace h3 := eq_of_beq h3
      exact absurd (hsv.symm.trans h3) hnz
    · replace h3 := ne_of_beq_false h3
      refine pwp_skip <| pwp_seq <| pwp_seq <| kx [(31, (vb (decide (s < 0))))] [] (zM <| zE oLt <| zZ) ?_
      refine pwp_cond (b := decide (s < 0)) rfl (fun h4 => ?_) (fun h4 => ?_)
      · replace h4 := of_decide_eq_true h4
        have hdv := dv_neg hsv hgv h4
        have hd0 : (-((g : Nat) : Int)) ≠ 0 := by rw [← hdv]; exact dvL_ne hnz
        refine kx [] [(0, some (bx (encI (ofZ (-((g : Nat) : Int))))))] (zR (oLa sh30) <| zE (oCl (rs_neg hg (by decide))) <| zT (oSt sh30) <| zZ) ?_
        refine pwp_seq <| kx [(7, (.own 2 30 2 0))] [(2, some (bxs encI []))] (zN (oBo 2 el40 ze30 zo30) <| zM <| zZ) ?_
        refine pwp_seq <| pwp_seq <| kx [(35, (vl tau 2 encI l)), (36, (vin l.length)), (37, (vin 0))] [] (zM <| zE (oLm el40) <| zM <| zZ) ?_
        refine pwp_block <| pwp_loop (α := Nat × List RInt) (fun (j, o) => ⟨[(3, (.ref 0 0)), (7, (.own 2 30 2 o.length)), (35, (vl tau 2 encI l)), (36, (vin l.length)), (37, (vin j))], [(0, some (bx (encI (ofZ (-((g : Nat) : Int)))))), (2, some (bxs encI o))]⟩) (fun (j, o) => j ≤ l.length ∧ o = List.map ofZ ((redL zs).take j)) (fun (j, o) => l.length - j) (0, []) wk ⟨Nat.zero_le _, rfl⟩ ?_
        rintro ⟨j, o⟩ ⟨hj, hov⟩
        have hol : o.length = j := by rw [hov]; simp [redL]; omega
        refine pwp_seq <| kx [(38, (vb (decide (((j : Nat) : Int) < ((l.length : Nat) : Int)))))] [] (zE oLt <| zZ) ?_
        refine pwp_seq <| pwp_cond rfl (fun h5 => ?_) (fun h5 => ?_)
        · replace h5 := of_decide_eq_true h5
          refine pwp_skip <| pwp_seq <| pwp_block <| pwp_seq <| kx [(9, (.ref 3 0))] [(3, some (bx (encI (l.getD j (RInt.mk false [])))))] (zE (oXl el40 j (RInt.mk false [])) <| zE (oCa sh30) <| zH (oAl 3 ze30 zo30) <| zT (oSt sh30) <| zZ) ?_
          refine pwp_seq <| kx [(10, (.ref 4 0))] [(4, some (bx (encI (ofZ ((zs.getD j 0).fdiv (-((g : Nat) : Int))))))), (5, none)] (zR (oLa sh30) <| zR (oLa sh30) <| zE (oCl (rs_divide (hl.get j) (iok_neg hg) (by decide) (by decide) hd0)) <| zM <| zE oEx <| zE oEx <| zE oEx <| zH (oAl 4 ze30 zo30) <| zH (oAl 5 ze30 zo30) <| zT (oSt sh30) <| zT (oSt sh30) <| zM <| zZ) ?_
          refine kf [(7, (.own 2 30 2 ((o ++ [(ofZ ((zs.getD j 0).fdiv (-((g : Nat) : Int))))]).length)))] [(2, some (bxs encI (o ++ [(ofZ ((zs.getD j 0).fdiv (-((g : Nat) : Int))))])))] (zM <| zR (oLa sh30) <| zE (oBs el40 ze30 zo30) <| zAS encI o [(ofZ ((zs.getD j 0).fdiv (-((g : Nat) : Int))))] rfl el40 ze30 by30 <| zM <| zF) ?_
          refine kx [(37, (vin (j + 1)))] [] (zE (oAd (j + 1)) <| zM <| zZ) ?_
          exact ⟨(j + 1, o ++ [ofZ ((zs.getD j 0).fdiv (-((g : Nat) : Int)))]), wk, ⟨by omega, redL_push (by omega) hov hdv⟩, (by first | omega | (dsimp only; omega))⟩
        · replace h5 := of_decide_eq_false h5
          have hje : j = zs.length := by omega
          rw [hje, show zs.length = (redL zs).length from (redL_length zs).symm, List.take_length] at hov
          subst hov
          refine pwp_exit <| pwp_seq <| pwp_sim (publish (t := 7) (k := 2) (es := List.map encI (List.map ofZ (redL zs))) rfl rfl (pubs_cells _ _ (fun _ => rfl)) (map_len _ _ rfl) (pubs_take encI (List.map ofZ (redL zs)) (fun _ => rfl) rfl)) ?_
          refine kx [(2, (vl 30 2 encI (List.map ofZ (redL zs))))] [] (zM <| zM <| zZ) ?_
          refine pwp_ret ⟨_, (.tmp (d := (.sl 30 2 (List.map encI (List.map ofZ (redL zs))))) rfl .nil), ?_⟩
          rfl
      · replace h4 := of_decide_eq_false h4
        have hdv := dv_pos hsv hgv h4
        have hd0 : ((g : Nat) : Int) ≠ 0 := by rw [← hdv]; exact dvL_ne hnz
        refine pwp_skip <| pwp_seq <| kx [(7, (.own 6 30 2 0))] [(6, some (bxs encI []))] (zN (oBo 6 el40 ze30 zo30) <| zM <| zZ) ?_
        refine pwp_seq <| pwp_seq <| kx [(35, (vl tau 2 encI l)), (36, (vin l.length)), (37, (vin 0))] [] (zM <| zE (oLm el40) <| zM <| zZ) ?_
        refine pwp_block <| pwp_loop (α := Nat × List RInt) (fun (j, o) => ⟨[(3, (.ref 0 0)), (7, (.own 6 30 2 o.length)), (35, (vl tau 2 encI l)), (36, (vin l.length)), (37, (vin j))], [(0, some (bx (encI (ofZ ((g : Nat) : Int))))), (6, some (bxs encI o))]⟩) (fun (j, o) => j ≤ l.length ∧ o = List.map ofZ ((redL zs).take j)) (fun (j, o) => l.length - j) (0, []) wk ⟨Nat.zero_le _, rfl⟩ ?_
        rintro ⟨j, o⟩ ⟨hj, hov⟩
        have hol : o.length = j := by rw [hov]; simp [redL]; omega
        refine pwp_seq <| kx [(38, (vb (decide (((j : Nat) : Int) < ((l.length : Nat) : Int)))))] [] (zE oLt <| zZ) ?_
        refine pwp_seq <| pwp_cond rfl (fun h6 => ?_) (fun h6 => ?_)
        · replace h6 := of_decide_eq_true h6
          refine pwp_skip <| pwp_seq <| pwp_block <| pwp_seq <| kx [(9, (.ref 7 0))] [(7, some (bx (encI (l.getD j (RInt.mk false [])))))] (zE (oXl el40 j (RInt.mk false [])) <| zE (oCa sh30) <| zH (oAl 7 ze30 zo30) <| zT (oSt sh30) <| zZ) ?_
          refine pwp_seq <| kx [(10, (.ref 8 0))] [(8, some (bx (encI (ofZ ((zs.getD j 0).fdiv ((g : Nat) : Int)))))), (9, none)] (zR (oLa sh30) <| zR (oLa sh30) <| zE (oCl (rs_divide (hl.get j) hg (by decide) (by decide) hd0)) <| zM <| zE oEx <| zE oEx <| zE oEx <| zH (oAl 8 ze30 zo30) <| zH (oAl 9 ze30 zo30) <| zT (oSt sh30) <| zT (oSt sh30) <| zM <| zZ) ?_
          refine kf [(7, (.own 6 30 2 ((o ++ [(ofZ ((zs.getD j 0).fdiv ((g : Nat) : Int)))]).length)))] [(6, some (bxs encI (o ++ [(ofZ ((zs.getD j 0).fdiv ((g : Nat) : Int)))])))] (zM <| zR (oLa sh30) <| zE (oBs el40 ze30 zo30) <| zAS encI o [(ofZ ((zs.getD j 0).fdiv ((g : Nat) : Int)))] rfl el40 ze30 by30 <| zM <| zF) ?_
          refine kx [(37, (vin (j + 1)))] [] (zE (oAd (j + 1)) <| zM <| zZ) ?_
          exact ⟨(j + 1, o ++ [ofZ ((zs.getD j 0).fdiv ((g : Nat) : Int))]), wk, ⟨by omega, redL_push (by omega) hov hdv⟩, (by first | omega | (dsimp only; omega))⟩
        · replace h6 := of_decide_eq_false h6
          have hje : j = zs.length := by omega
          rw [hje, show zs.length = (redL zs).length from (redL_length zs).symm, List.take_length] at hov
          subst hov
          refine pwp_exit <| pwp_seq <| pwp_sim (publish (t := 7) (k := 6) (es := List.map encI (List.map ofZ (redL zs))) rfl rfl (pubs_cells _ _ (fun _ => rfl)) (map_len _ _ rfl) (pubs_take encI (List.map ofZ (redL zs)) (fun _ => rfl) rfl)) ?_
          refine kx [(2, (vl 30 2 encI (List.map ofZ (redL zs))))] [] (zM <| zM <| zZ) ?_
          refine pwp_ret ⟨_, (.tmp (d := (.sl 30 2 (List.map encI (List.map ofZ (redL zs))))) rfl .nil), ?_⟩
          rfl
theorem l_tripF (p : A3 RInt) (p0 p1 p2 : Int) (hp0 : IOk p.a0 p0 1000000) (hp1 : IOk p.a1 p1 1000000) (hp2 : IOk p.a2 p2 1000000) (hnz : sgnL [p0, p1, p2] = 0) : Takes Tryz.prog 54 [(encA43 p)] (.tup [(encA43 (A3.mk (RInt.mk false []) (RInt.mk false []) (RInt.mk false []))), (.val (.bool (false)))]) := by
  refine fn_intro Tryz.func54 rfl cb54 rfl ?_
  show PWp _ _ _ _ ⟨[(0, (.d (encA43 p)))], []⟩
  refine pwp_seq <| kx [(1, (.ref 0 0)), (2, (.ref 1 0))] [(0, some (bx (encA43 p))), (1, some (bx (encA43 (A3.mk (RInt.mk false []) (RInt.mk false []) (RInt.mk false [])))))] (zN (oBx 0) <| zN (oAl 1 ze44 zo44) <| zM <| zZ) ?_
  refine pwp_seq <| kx [(4, (.d (.val (.slice none 0 0))))] [] (zE (e_slv (by exact rfl) ar44 (by exact rfl) (by kernel_rfl) (by kernel_rfl)) <| zR ⟨(bx (encA43 p)), e_clv (es := List.map encI [p.a0, p.a1, p.a2]) (l_redN 1000000 [p.a0, p.a1, p.a2] [p0, p1, p2] (.cons hp0 (.cons hp1 (.cons hp2 .nil))) (Nat.le_of_ble_eq_true rfl) hnz) (by exact rfl) (by kernel_rfl) (by exact rfl) (.v .nil) (pubs_cells _ _ (fun _ => rfl)) (by kernel_rfl) (by kernel_rfl) (.val _), by kernel_rfl⟩ <| zM <| zZ) ?_
  refine pwp_seq <| pwp_seq <| kx [(8, (vb true))] [] (zM <| zE (oNu el40) <| zZ) ?_
  refine pwp_cond (b := true) (by kernel_rfl) (fun _ => ?_) (fun h => by cases h)
  refine pwp_seq <| kx [(3, (vb false))] [(1, some (bx (encA43 (A3.mk (RInt.mk false []) (RInt.mk false []) (RInt.mk false [])))))] (zE (oBa ar44 ze44 zo44) <| zT (oSt sh44) <| zM <| zZ) ?_
  refine pwp_ret ⟨_, (res_a (cs := (bx (encA43 (A3.mk (RInt.mk false []) (RInt.mk false []) (RInt.mk false []))))) (d := (encA43 (A3.mk (RInt.mk false []) (RInt.mk false []) (RInt.mk false [])))) rfl rfl sh44 rfl rfl (.tmp (d := (.val (.bool (false)))) rfl .nil)), ?_⟩
  rfl
theorem l_trip (p : A3 RInt) (p0 p1 p2 : Int) (hp0 : IOk p.a0 p0 1000000) (hp1 : IOk p.a1 p1 1000000) (hp2 : IOk p.a2 p2 1000000) (c0 c1 c2 : Int) (hc : redL [p0, p1, p2] = [c0, c1, c2]) (hnz : sgnL [p0, p1, p2] ≠ 0) : Takes Tryz.prog 54 [(encA43 p)] (.tup [(encA43 (A3.mk (ofZ c0) (ofZ c1) (ofZ c2))), (.val (.bool (true)))]) := by
  refine fn_intro Tryz.func54 rfl cb54 rfl ?_
  show PWp _ _ _ _ ⟨[(0, (.d (encA43 p)))], []⟩
  refine pwp_seq <| kx [(1, (.ref 0 0)), (2, (.ref 1 0))] [(0, some (bx (encA43 p))), (1, some (bx (encA43 (A3.mk (RInt.mk false []) (RInt.mk false []) (RInt.mk false [])))))] (zN (oBx 0) <| zN (oAl 1 ze44 zo44) <| zM <| zZ) ?_
  refine pwp_seq ?_
  have bn1 : ∀ c ∈ [c0, c1, c2], IOk (ofZ c) c 1000000 := red_iok (n := 1000000) (.cons hp0 (.cons hp1 (.cons hp2 .nil))) hc
  refine kx [(4, (vl 30 2 encI [(ofZ c0), (ofZ c1), (ofZ c2)]))] [] (zE (e_slv (by exact rfl) ar44 (by exact rfl) (by kernel_rfl) (by kernel_rfl)) <| zR ⟨(bx (encA43 p)), e_clv (es := List.map encI [p.a0, p.a1, p.a2]) (by have h := l_red 1000000 [p.a0, p.a1, p.a2] [p0, p1, p2] (.cons hp0 (.cons hp1 (.cons hp2 .nil))) (Nat.le_of_ble_eq_true rfl) hnz; rw [hc] at h; exact h) (by exact rfl) (by kernel_rfl) (by exact rfl) (.v .nil) (pubs_cells _ _ (fun _ => rfl)) (by kernel_rfl) (by kernel_rfl) (avo_sl_30 (by decide) (by decide) _), by kernel_rfl⟩ <| zM <| zZ) ?_
  refine pwp_seq <| pwp_seq <| kx [(8, (vb false))] [] (zM <| zE (oNf el40) <| zZ) ?_
  refine pwp_cond (b := false) (by kernel_rfl) (fun h => by cases h) (fun _ => ?_)
  refine pwp_skip <| pwp_seq <| kx [(3, (vb true))] [(1, some (bx (encA43 (A3.mk (ofZ c0) (ofZ c1) (ofZ c2)))))] (zM <| zE (e_sap (cs := (Dat.cells (encA43 (A3.mk (ofZ c0) (ofZ c1) (ofZ c2))))) (by exact rfl) ar44 (by exact rfl) (by kernel_rfl) (by kernel_rfl) (by kernel_rfl)) <| zE (oCa sh44) <| zT (oSt sh44) <| zM <| zZ) ?_
  refine pwp_ret ⟨_, (res_a (cs := (bx (encA43 (A3.mk (ofZ c0) (ofZ c1) (ofZ c2))))) (d := (encA43 (A3.mk (ofZ c0) (ofZ c1) (ofZ c2)))) rfl rfl sh44 rfl rfl (.tmp (d := (.val (.bool (true)))) rfl .nil)), ?_⟩
  rfl
theorem l_plainV (tau : Nat) (l : List RInt) (zs : List Int) (hl : LOk 1000000 l zs) (hb : l.length ≤ 1000000) (hv : List.all l validI = false) : Takes Tryz.prog 80 [(.sl tau 2 (List.map encI l))] (.val (.bool (false))) := by
  refine fn_intro Tryz.func80 rfl cb80 rfl ?_
  show PWp _ _ _ _ ⟨[(0, (vl tau 2 encI l))], []⟩
  refine pwp_seq <| kx [] [] (zM <| zZ) ?_
  refine pwp_seq <| pwp_seq <| kx [(7, (vl tau 2 encI l)), (8, (vin l.length)), (9, (vin 0))] [] (zM <| zE (oLm el40) <| zM <| zZ) ?_
  refine pwp_block <| pwp_loop (α := Nat) (fun i => ⟨[(0, (vl tau 2 encI l)), (7, (vl tau 2 encI l)), (8, (vin l.length)), (9, (vin i))], []⟩) (fun i => i ≤ l.length ∧ (l.take i).all validI = true) (fun i => l.length - i) 0 wk ⟨Nat.zero_le _, by simp⟩ ?_
  rintro i ⟨hi, hal⟩
  refine pwp_seq <| kx [(10, (vb (decide (((i : Nat) : Int) < ((l.length : Nat) : Int)))))] [] (zE oLt <| zZ) ?_
  refine pwp_seq <| pwp_cond rfl (fun h1 => ?_) (fun h1 => ?_)
  · replace h1 := of_decide_eq_true h1
    refine pwp_skip <| pwp_seq <| pwp_block <| pwp_seq <| kx [(4, (.ref 0 0))] [(0, some (bx (encI (l.getD i (RInt.mk false [])))))] (zE (oXl el40 i (RInt.mk false [])) <| zE (oCa sh30) <| zN (oAl 0 ze30 zo30) <| zT (oSt sh30) <| zZ) ?_
    refine pwp_seq <| kx [(15, (vb (!(validI (l.getD i (RInt.mk false []))))))] [] (zR (oLa sh30) <| zE (oCl (r_valid (l.getD i (RInt.mk false [])) (Nat.le_trans (hl.get i).l (by decide)))) <| zE oNt <| zZ) ?_
    refine pwp_cond (b := !(validI (l.getD i (RInt.mk false [])))) rfl (fun h2 => ?_) (fun h2 => ?_)
    · refine pwp_seq <| kx [(2, (vb false))] [] (zM <| zZ) ?_
      refine pwp_ret ⟨_, (.tmp (d := (.val (.bool (false)))) rfl .nil), ?_⟩
      rfl
    · refine pwp_skip <| kx [(9, (vin (i + 1)))] [] (zE (oAd (i + 1)) <| zM <| zZ) ?_
      exact ⟨(i + 1), wk, ⟨by omega, all_take (d := ⟨false, []⟩) (by omega) hal (by simpa using h2)⟩, (by first | omega | (dsimp only; omega))⟩
  · replace h1 := of_decide_eq_false h1
    exfalso; have hie : i = l.length := (by omega); rw [hie, List.take_length, hv] at hal; cases hal
theorem l_plain0 (tau : Nat) (l : List RInt) (zs : List Int) (hl : LOk 1000000 l zs) (hb : l.length ≤ 1000000) (hv : List.all l validI = true) (hz : sgnL zs = 0) : Takes Tryz.prog 80 [(.sl tau 2 (List.map encI l))] (.val (.bool (false))) := by
  refine fn_intro Tryz.func80 rfl cb80 rfl ?_
  show PWp _ _ _ _ ⟨[(0, (vl tau 2 encI l))], []⟩
  refine pwp_seq <| kx [] [] (zM <| zZ) ?_
  refine pwp_seq <| pwp_seq <| kx [(7, (vl tau 2 encI l)), (8, (vin l.length)), (9, (vin 0))] [] (zM <| zE (oLm el40) <| zM <| zZ) ?_
  refine pwp_block <| pwp_loop (α := Nat) (fun i => ⟨[(0, (vl tau 2 encI l)), (7, (vl tau 2 encI l)), (8, (vin l.length)), (9, (vin i))], []⟩) (fun i => i ≤ l.length) (fun i => l.length - i) 0 wk (Nat.zero_le _) ?_
  rintro i hi
  refine pwp_seq <| kx [(10, (vb (decide (((i : Nat) : Int) < ((l.length : Nat) : Int)))))] [] (zE oLt <| zZ) ?_
  refine pwp_seq <| pwp_cond rfl (fun h1 => ?_) (fun h1 => ?_)
  · replace h1 := of_decide_eq_true h1
    refine pwp_skip <| pwp_seq <| pwp_block <| pwp_seq <| kx [(4, (.ref 0 0))] [(0, some (bx (encI (l.getD i (RInt.mk false [])))))] (zE (oXl el40 i (RInt.mk false [])) <| zE (oCa sh30) <| zN (oAl 0 ze30 zo30) <| zT (oSt sh30) <| zZ) ?_
    refine pwp_seq <| kx [(15, (vb false))] [] (zR (oLa sh30) <| zE (oBk true (oCl (r_valid (l.getD i (RInt.mk false [])) (Nat.le_trans (hl.get i).l (by decide)))) (by exact (all_getD hv (by omega)))) <| zE oNt <| zZ) ?_
    refine pwp_cond (b := false) (by kernel_rfl) (fun h => by cases h) (fun _ => ?_)
    refine pwp_skip <| kx [(9, (vin (i + 1)))] [] (zE (oAd (i + 1)) <| zM <| zZ) ?_
    exact ⟨(i + 1), wk, (by show i + 1 ≤ l.length; omega), (by first | omega | (dsimp only; omega))⟩
  · replace h1 := of_decide_eq_false h1
    refine pwp_exit <| pwp_seq <| kx [(5, (.d (.val (.slice none 0 0))))] [] (zM <| zE (oCl (l_redN tau l zs hl hb hz)) <| zM <| zZ) ?_
    refine pwp_seq <| pwp_seq <| kx [(20, (vb true))] [] (zM <| zE (oNu el40) <| zZ) ?_
    refine pwp_cond (b := true) (by kernel_rfl) (fun _ => ?_) (fun h => by cases h)
    refine pwp_seq <| kx [(2, (vb false))] [] (zM <| zZ) ?_
    refine pwp_ret ⟨_, (.tmp (d := (.val (.bool (false)))) rfl .nil), ?_⟩
    rfl
theorem l_plainT (tau : Nat) (l : List RInt) (zs : List Int) (hl : LOk 1000000 l zs) (hb : l.length ≤ 1000000) (hv : List.all l validI = true) (hnz : sgnL zs ≠ 0) (hd : dvL zs = 1) : Takes Tryz.prog 80 [(.sl tau 2 (List.map encI l))] (.val (.bool (true))) := by
  have hlen := hl.len
  have hpos := sgnL_pos hnz
  refine fn_intro Tryz.func80 rfl cb80 rfl ?_
  show PWp _ _ _ _ ⟨[(0, (vl tau 2 encI l))], []⟩
  refine pwp_seq <| kx [] [] (zM <| zZ) ?_
  refine pwp_seq <| pwp_seq <| kx [(7, (vl tau 2 encI l)), (8, (vin l.length)), (9, (vin 0))] [] (zM <| zE (oLm el40) <| zM <| zZ) ?_
  refine pwp_block <| pwp_loop (α := Nat) (fun i => ⟨[(0, (vl tau 2 encI l)), (7, (vl tau 2 encI l)), (8, (vin l.length)), (9, (vin i))], []⟩) (fun i => i ≤ l.length) (fun i => l.length - i) 0 wk (Nat.zero_le _) ?_
  rintro i hi
  refine pwp_seq <| kx [(10, (vb (decide (((i : Nat) : Int) < ((l.length : Nat) : Int)))))] [] (zE oLt <| zZ) ?_
  refine pwp_seq <| pwp_cond rfl (fun h1 => ?_) (fun h1 => ?_)
  · replace h1 := of_decide_eq_true h1
    refine pwp_skip <| pwp_seq <| pwp_block <| pwp_seq <| kx [(4, (.ref 0 0))] [(0, some (bx (encI (l.getD i (RInt.mk false [])))))] (zE (oXl el40 i (RInt.mk false [])) <| zE (oCa sh30) <| zN (oAl 0 ze30 zo30) <| zT (oSt sh30) <| zZ) ?_
    refine pwp_seq <| kx [(15, (vb false))] [] (zR (oLa sh30) <| zE (oBk true (oCl (r_valid (l.getD i (RInt.mk false [])) (Nat.le_trans (hl.get i).l (by decide)))) (by exact (all_getD hv (by omega)))) <| zE oNt <| zZ) ?_
    refine pwp_cond (b := false) (by kernel_rfl) (fun h => by cases h) (fun _ => ?_)
    refine pwp_skip <| kx [(9, (vin (i + 1)))] [] (zE (oAd (i + 1)) <| zM <| zZ) ?_
    exact ⟨(i + 1), wk, (by show i + 1 ≤ l.length; omega), (by first | omega | (dsimp only; omega))⟩
  · replace h1 := of_decide_eq_false h1
    refine pwp_exit <| pwp_seq <| kx [(5, (vl 30 2 encI (List.map ofZ (redL zs))))] [] (zM <| zE (oCl (l_red tau l zs hl hb hnz)) <| zM <| zZ) ?_
    refine pwp_seq <| pwp_seq <| kx [(20, (vb false))] [] (zM <| zE (oNf el40 (hl := by exact (by simp [redL]; omega))) <| zZ) ?_
    refine pwp_cond (b := false) (by kernel_rfl) (fun h => by cases h) (fun _ => ?_)
    refine pwp_skip <| pwp_seq <| pwp_seq <| kx [(22, (vin l.length)), (23, (vin 0))] [] (zM <| zE (oLm el40) <| zM <| zZ) ?_
    refine pwp_block <| pwp_loop (α := Nat) (fun i => ⟨[(0, (vl tau 2 encI l)), (5, (vl 30 2 encI (List.map ofZ (redL zs)))), (22, (vin l.length)), (23, (vin i))], []⟩) (fun i => i ≤ l.length) (fun i => l.length - i) 0 wk (Nat.zero_le _) ?_
    rintro i hi
    refine pwp_seq <| kx [(24, (vb (decide (((i : Nat) : Int) < ((l.length : Nat) : Int)))))] [] (zE oLt <| zZ) ?_
    refine pwp_seq <| pwp_cond rfl (fun h2 => ?_) (fun h2 => ?_)
    · replace h2 := of_decide_eq_true h2
      refine pwp_skip <| pwp_seq <| pwp_block <| pwp_seq <| kx [(6, (vin i))] [] (zM <| zM <| zZ) ?_
      refine pwp_seq <| kd [(35, (vb false))] [] mo (wM <| wM <| wE (oXl el40 i (RInt.mk false [])) <| wE (oCa sh30) <| wM <| wM <| wE (oXl el40 i (RInt.mk false []) (L := (List.map ofZ (redL zs))) (hj := by first | omega | (rw [List.length_map, redL_length]; omega)) (h1 := by first | omega | (rw [List.length_map, redL_length]; omega))) <| wE (oCa sh30) <| wE (oBk true (oCl (r_same (l.getD i (RInt.mk false [])) ((List.map ofZ (redL zs)).getD i (RInt.mk false [])) (Nat.le_trans (hl.get i).l (by decide)) (Nat.le_trans (redL_iok hl i).l (by decide)))) (by exact (plain_same hl hv hd (by omega)))) <| wE oNt <| wZ) ?_
      refine pwp_cond (b := false) (by kernel_rfl) (fun h => by cases h) (fun _ => ?_)
      refine pwp_skip <| kx [(23, (vin (i + 1)))] [] (zE (oAd (i + 1)) <| zM <| zZ) ?_
      exact ⟨(i + 1), wk, (by show i + 1 ≤ l.length; omega), (by first | omega | (dsimp only; omega))⟩
    · replace h2 := of_decide_eq_false h2
      refine pwp_exit <| pwp_seq <| kx [(2, (vb true))] [] (zM <| zZ) ?_
      refine pwp_ret ⟨_, (.tmp (d := (.val (.bool (true)))) rfl .nil), ?_⟩
      rfl
theorem l_plainF (tau : Nat) (l : List RInt) (zs : List Int) (hl : LOk 1000000 l zs) (hb : l.length ≤ 1000000) (hv : List.all l validI = true) (hnz : sgnL zs ≠ 0) (hd : dvL zs ≠ 1) : Takes Tryz.prog 80 [(.sl tau 2 (List.map encI l))] (.val (.bool (false))) := by
  have hlen := hl.len
  have hpos := sgnL_pos hnz
  refine fn_intro Tryz.func80 rfl cb80 rfl ?_
  show PWp _ _ _ _ ⟨[(0, (vl tau 2 encI l))], []⟩
  refine pwp_seq <| kx [] [] (zM <| zZ) ?_
  refine pwp_seq <| pwp_seq <| kx [(7, (vl tau 2 encI l)), (8, (vin l.length)), (9, (vin 0))] [] (zM <| zE (oLm el40) <| zM <| zZ) ?_
  refine pwp_block <| pwp_loop (α := Nat) (fun i => ⟨[(0, (vl tau 2 encI l)), (7, (vl tau 2 encI l)), (8, (vin l.length)), (9, (vin i))], []⟩) (fun i => i ≤ l.length) (fun i => l.length - i) 0 wk (Nat.zero_le _) ?_
  rintro i hi
  refine pwp_seq <| kx [(10, (vb (decide (((i : Nat) : Int) < ((l.length : Nat) : Int)))))] [] (zE oLt <| zZ) ?_
  refine pwp_seq <| pwp_cond rfl (fun h1 => ?_) (fun h1 => ?_)
  · replace h1 := of_decide_eq_true h1
    refine pwp_skip <| pwp_seq <| pwp_block <| pwp_seq <| kx [(4, (.ref 0 0))] [(0, some (bx (encI (l.getD i (RInt.mk false [])))))] (zE (oXl el40 i (RInt.mk false [])) <| zE (oCa sh30) <| zN (oAl 0 ze30 zo30) <| zT (oSt sh30) <| zZ) ?_
    refine pwp_seq <| kx [(15, (vb false))] [] (zR (oLa sh30) <| zE (oBk true (oCl (r_valid (l.getD i (RInt.mk false [])) (Nat.le_trans (hl.get i).l (by decide)))) (by exact (all_getD hv (by omega)))) <| zE oNt <| zZ) ?_
    refine pwp_cond (b := false) (by kernel_rfl) (fun h => by cases h) (fun _ => ?_)
    refine pwp_skip <| kx [(9, (vin (i + 1)))] [] (zE (oAd (i + 1)) <| zM <| zZ) ?_
    exact ⟨(i + 1), wk, (by show i + 1 ≤ l.length; omega), (by first | omega | (dsimp only; omega))⟩
  · replace h1 := of_decide_eq_false h1
    refine pwp_exit <| pwp_seq <| kx [(5, (vl 30 2 encI (List.map ofZ (redL zs))))] [] (zM <| zE (oCl (l_red tau l zs hl hb hnz)) <| zM <| zZ) ?_
    refine pwp_seq <| pwp_seq <| kx [(20, (vb false))] [] (zM <| zE (oNf el40 (hl := by exact (by simp [redL]; omega))) <| zZ) ?_
    refine pwp_cond (b := false) (by kernel_rfl) (fun h => by cases h) (fun _ => ?_)
    refine pwp_skip <| pwp_seq <| pwp_seq <| kx [(22, (vin l.length)), (23, (vin 0))] [] (zM <| zE (oLm el40) <| zM <| zZ) ?_
    refine pwp_block <| pwp_loop (α := Nat) (fun i => ⟨[(0, (vl tau 2 encI l)), (5, (vl 30 2 encI (List.map ofZ (redL zs)))), (22, (vin l.length)), (23, (vin i))], []⟩) (fun i => i ≤ l.length ∧ l.take i = (List.map ofZ (redL zs)).take i) (fun i => l.length - i) 0 wk ⟨Nat.zero_le _, by simp⟩ ?_
    rintro i ⟨hi, hal⟩
    refine pwp_seq <| kx [(24, (vb (decide (((i : Nat) : Int) < ((l.length : Nat) : Int)))))] [] (zE oLt <| zZ) ?_
    refine pwp_seq <| pwp_cond rfl (fun h2 => ?_) (fun h2 => ?_)
    · replace h2 := of_decide_eq_true h2
      refine pwp_skip <| pwp_seq <| pwp_block <| pwp_seq <| kx [(6, (vin i))] [] (zM <| zM <| zZ) ?_
      refine pwp_seq <| kd [(35, (vb (!(sameI (l.getD i (RInt.mk false [])) ((List.map ofZ (redL zs)).getD i (RInt.mk false []))))))] [] mo (wM <| wM <| wE (oXl el40 i (RInt.mk false [])) <| wE (oCa sh30) <| wM <| wM <| wE (oXl el40 i (RInt.mk false []) (L := (List.map ofZ (redL zs))) (hj := by first | omega | (rw [List.length_map, redL_length]; omega)) (h1 := by first | omega | (rw [List.length_map, redL_length]; omega))) <| wE (oCa sh30) <| wE (oCl (r_same (l.getD i (RInt.mk false [])) ((List.map ofZ (redL zs)).getD i (RInt.mk false [])) (Nat.le_trans (hl.get i).l (by decide)) (Nat.le_trans (redL_iok hl i).l (by decide)))) <| wE oNt <| wZ) ?_
      refine pwp_cond rfl (fun h3 => ?_) (fun h3 => ?_)
      · refine pwp_seq <| kx [(2, (vb false))] [] (zM <| zZ) ?_
        refine pwp_ret ⟨_, (.tmp (d := (.val (.bool (false)))) rfl .nil), ?_⟩
        rfl
      · refine pwp_skip <| kx [(23, (vin (i + 1)))] [] (zE (oAd (i + 1)) <| zM <| zZ) ?_
        exact ⟨(i + 1), wk, ⟨by omega, plain_step (by omega) (by rw [List.length_map, redL_length]; omega) hal (by simpa using h3)⟩, (by first | omega | (dsimp only; omega))⟩
    · replace h2 := of_decide_eq_false h2
      exfalso; have hie : i = l.length := (by omega); exact hd (plain_end hl hnz (by rw [hie] at hal; exact hal))
theorem l_plain (tau : Nat) (l : List RInt) (zs : List Int) (hl : LOk 1000000 l zs) (hb : l.length ≤ 1000000) : Takes Tryz.prog 80 [.sl tau 2 (List.map encI l)] (.val (.bool (redB l))) := by
  rcases hv : List.all l validI with _ | _
  · have h := l_plainV tau l zs hl hb hv
    rw [show redB l = false from by unfold redB; rw [hv]; rfl]; exact h
  by_cases hz : sgnL zs = 0
  · rw [show redB l = false from by rw [redB_eq hl hv, hz]; rfl]; exact l_plain0 tau l zs hl hb hv hz
  by_cases hd : dvL zs = 1
  · rw [show redB l = true from redB_yes hl hv hz hd]; exact l_plainT tau l zs hl hb hv hz hd
  · rw [show redB l = false from redB_no hl hd]; exact l_plainF tau l zs hl hb hv hz hd
theorem l_proper (p : A3 RInt) (p0 p1 p2 : Int) (hp0 : IOk p.a0 p0 1000000) (hp1 : IOk p.a1 p1 1000000) (hp2 : IOk p.a2 p2 1000000) : Takes Tryz.prog 24 [(encA43 p)] (.val (.bool ((redB [p.a0, p.a1, p.a2])))) := by
  refine fn_intro Tryz.func24 rfl cb24 rfl ?_
  show PWp _ _ _ _ ⟨[(0, (.d (encA43 p)))], []⟩
  refine pwp_seq <| kx [(1, (.ref 0 0))] [(0, some (bx (encA43 p)))] (zN (oBx 0) <| zM <| zZ) ?_
  refine pwp_seq <| kx [(2, (vb (redB [p.a0, p.a1, p.a2])))] [] (zE (e_slv (by exact rfl) ar44 (by exact rfl) (by kernel_rfl) (by kernel_rfl)) <| zR ⟨(bx (encA43 p)), e_clv (es := List.map encI [p.a0, p.a1, p.a2]) (l_plain 1000000 [p.a0, p.a1, p.a2] [p0, p1, p2] (.cons hp0 (.cons hp1 (.cons hp2 .nil))) (Nat.le_of_ble_eq_true rfl)) (by exact rfl) (by kernel_rfl) (by exact rfl) (.v .nil) (pubs_cells _ _ (fun _ => rfl)) (by kernel_rfl) (by kernel_rfl) (.val _), by kernel_rfl⟩ <| zM <| zZ) ?_
  refine pwp_ret ⟨_, (.tmp (d := (.val (.bool ((redB [p.a0, p.a1, p.a2]))))) rfl .nil), ?_⟩
  rfl
theorem l_valid (h : A9 RInt) (h0 h1 h2 h3 h4 h5 h6 h7 h8 : Int) (hh0 : IOk h.a0 h0 1000000) (hh1 : IOk h.a1 h1 1000000) (hh2 : IOk h.a2 h2 1000000) (hh3 : IOk h.a3 h3 1000000) (hh4 : IOk h.a4 h4 1000000) (hh5 : IOk h.a5 h5 1000000) (hh6 : IOk h.a6 h6 1000000) (hh7 : IOk h.a7 h7 1000000) (hh8 : IOk h.a8 h8 1000000) : Takes Tryz.prog 23 [(encA31 h)] (.val (.bool ((valH [h.a0, h.a1, h.a2, h.a3, h.a4, h.a5, h.a6, h.a7, h.a8] (det3 h0 h1 h2 h3 h4 h5 h6 h7 h8))))) := by
  refine fn_intro Tryz.func23 rfl cb23 rfl ?_
  show PWp _ _ _ _ ⟨[(0, (.d (encA31 h)))], []⟩
  refine pwp_seq <| kx [(1, (.ref 0 0))] [(0, some (bx (encA31 h)))] (zN (oBx 0) <| zM <| zZ) ?_
  refine pwp_seq ?_
  have bn1 : IOk (ofZ (det3 h0 h1 h2 h3 h4 h5 h6 h7 h8)) (det3 h0 h1 h2 h3 h4 h5 h6 h7 h8) 3000003 := (iok_det3 (n := 1000000) (k := 3000003) hh0 hh1 hh2 hh3 hh4 hh5 hh6 hh7 hh8 (by decide))
  refine kd [(2, (vb ((redB [h.a0, h.a1, h.a2, h.a3, h.a4, h.a5, h.a6, h.a7, h.a8]) && !(signI (det3 h0 h1 h2 h3 h4 h5 h6 h7 h8) == 0))))] [] mo ?_ ?_
  · refine wE (e_slv (by exact rfl) ar32 (by exact rfl) (by kernel_rfl) (by kernel_rfl)) <| wR ⟨(bx (encA31 h)), e_clv (es := List.map encI [h.a0, h.a1, h.a2, h.a3, h.a4, h.a5, h.a6, h.a7, h.a8]) (l_plain 1000000 [h.a0, h.a1, h.a2, h.a3, h.a4, h.a5, h.a6, h.a7, h.a8] [h0, h1, h2, h3, h4, h5, h6, h7, h8] (.cons hh0 (.cons hh1 (.cons hh2 (.cons hh3 (.cons hh4 (.cons hh5 (.cons hh6 (.cons hh7 (.cons hh8 .nil))))))))) (Nat.le_of_ble_eq_true rfl)) (by exact rfl) (by kernel_rfl) (by exact rfl) (.v .nil) (pubs_cells _ _ (fun _ => rfl)) (by kernel_rfl) (by kernel_rfl) (.val _), by kernel_rfl⟩ <| wE (oV (vb (redB [h.a0, h.a1, h.a2, h.a3, h.a4, h.a5, h.a6, h.a7, h.a8])) (mv_ok (by kernel_rfl))) <| ?_
    rcases hb1 : (redB [h.a0, h.a1, h.a2, h.a3, h.a4, h.a5, h.a6, h.a7, h.a8]) with _ | _
    · exact wK <| wK <| wK <| wK <| wK <| wK <| wK <| wK <| wK <| wE oPf <| wM <| wZ
    · exact wR (oLa sh32) <| wE (oCl (l_row0 h h0 h1 h2 h3 h4 h5 h6 h7 h8 (iu hh0) (iu hh1) (iu hh2) (iu hh3) (iu hh4) (iu hh5) (iu hh6) (iu hh7) (iu hh8))) <| wR (oLa sh32) <| wE (oCl (l_row1 h h0 h1 h2 h3 h4 h5 h6 h7 h8 (iu hh0) (iu hh1) (iu hh2) (iu hh3) (iu hh4) (iu hh5) (iu hh6) (iu hh7) (iu hh8))) <| wR (oLa sh32) <| wE (oCl (l_row2 h h0 h1 h2 h3 h4 h5 h6 h7 h8 (iu hh0) (iu hh1) (iu hh2) (iu hh3) (iu hh4) (iu hh5) (iu hh6) (iu hh7) (iu hh8))) <| wE (oCl (l_det (A3.mk h.a0 h.a1 h.a2) h0 h1 h2 hh0 hh1 hh2 (A3.mk h.a3 h.a4 h.a5) h3 h4 h5 hh3 hh4 hh5 (A3.mk h.a6 h.a7 h.a8) h6 h7 h8 hh6 hh7 hh8)) <| wE (oCl (l_zero (ofZ (det3 h0 h1 h2 h3 h4 h5 h6 h7 h8)) (det3 h0 h1 h2 h3 h4 h5 h6 h7 h8) (iu bn1))) <| wE oNt <| wE oPa <| wM <| wZ
  refine pwp_ret ⟨_, (.tmp (d := (.val (.bool (((redB [h.a0, h.a1, h.a2, h.a3, h.a4, h.a5, h.a6, h.a7, h.a8]) && !(signI (det3 h0 h1 h2 h3 h4 h5 h6 h7 h8) == 0)))))) rfl .nil), ?_⟩
  rfl
theorem l_apply (h : A9 RInt) (h0 h1 h2 h3 h4 h5 h6 h7 h8 : Int) (hh0 : IOk h.a0 h0 1000) (hh1 : IOk h.a1 h1 1000) (hh2 : IOk h.a2 h2 1000) (hh3 : IOk h.a3 h3 1000) (hh4 : IOk h.a4 h4 1000) (hh5 : IOk h.a5 h5 1000) (hh6 : IOk h.a6 h6 1000) (hh7 : IOk h.a7 h7 1000) (hh8 : IOk h.a8 h8 1000) (p : A3 RInt) (p0 p1 p2 : Int) (hp0 : IOk p.a0 p0 1000) (hp1 : IOk p.a1 p1 1000) (hp2 : IOk p.a2 p2 1000) (c0 c1 c2 : Int) (hc : redL [(((h0 * p0) + (h1 * p1)) + (h2 * p2)), (((h3 * p0) + (h4 * p1)) + (h5 * p2)), (((h6 * p0) + (h7 * p1)) + (h8 * p2))] = [c0, c1, c2]) (hnz : sgnL [(((h0 * p0) + (h1 * p1)) + (h2 * p2)), (((h3 * p0) + (h4 * p1)) + (h5 * p2)), (((h6 * p0) + (h7 * p1)) + (h8 * p2))] ≠ 0) : Takes Tryz.prog 17 [(encA31 h), (encA43 p)] (encA43 (A3.mk (ofZ c0) (ofZ c1) (ofZ c2))) := by
  refine fn_intro Tryz.func17 rfl cb17 rfl ?_
  show PWp _ _ _ _ ⟨[(0, (.d (encA31 h))), (1, (.d (encA43 p)))], []⟩
  refine pwp_seq <| kx [(2, (.ref 0 0)), (3, (.ref 1 0)), (4, (.ref 2 0))] [(0, some (bx (encA31 h))), (1, some (bx (encA43 p))), (2, some (bx (encA43 (A3.mk (RInt.mk false []) (RInt.mk false []) (RInt.mk false [])))))] (zN (oBx 0) <| zN (oBx 1) <| zN (oAl 2 ze44 zo44) <| zZ) ?_
  refine pwp_seq ?_
  have bn1 : IOk (ofZ (((h0 * p0) + (h1 * p1)) + (h2 * p2))) (((h0 * p0) + (h1 * p1)) + (h2 * p2)) 2002 := (iok_add (k := 2002) (iok_add (k := 2001) (iok_mul (k := 2000) hh0 hp0 (by decide)) (iok_mul (k := 2000) hh1 hp1 (by decide)) (by decide)) (iok_mul (k := 2000) hh2 hp2 (by decide)) (by decide))
  have bn2 : IOk (ofZ (((h3 * p0) + (h4 * p1)) + (h5 * p2))) (((h3 * p0) + (h4 * p1)) + (h5 * p2)) 2002 := (iok_add (k := 2002) (iok_add (k := 2001) (iok_mul (k := 2000) hh3 hp0 (by decide)) (iok_mul (k := 2000) hh4 hp1 (by decide)) (by decide)) (iok_mul (k := 2000) hh5 hp2 (by decide)) (by decide))
  have bn3 : IOk (ofZ (((h6 * p0) + (h7 * p1)) + (h8 * p2))) (((h6 * p0) + (h7 * p1)) + (h8 * p2)) 2002 := (iok_add (k := 2002) (iok_add (k := 2001) (iok_mul (k := 2000) hh6 hp0 (by decide)) (iok_mul (k := 2000) hh7 hp1 (by decide)) (by decide)) (iok_mul (k := 2000) hh8 hp2 (by decide)) (by decide))
  have bn4 : ∀ c ∈ [c0, c1, c2], IOk (ofZ c) c 2002 := red_iok (n := 2002) (.cons bn1 (.cons bn2 (.cons bn3 .nil))) hc
  refine kd [(5, (.ref 3 0))] [(3, some (bx (encA43 (A3.mk (ofZ c0) (ofZ c1) (ofZ c2)))))] mo (wR (oLa sh32) <| wE (oCl (l_row0 h h0 h1 h2 h3 h4 h5 h6 h7 h8 (iu hh0) (iu hh1) (iu hh2) (iu hh3) (iu hh4) (iu hh5) (iu hh6) (iu hh7) (iu hh8))) <| wR (oLa sh44) <| wE (oCl (l_dot (A3.mk h.a0 h.a1 h.a2) h0 h1 h2 (iu hh0) (iu hh1) (iu hh2) p p0 p1 p2 (iu hp0) (iu hp1) (iu hp2))) <| wR (oLa sh32) <| wE (oCl (l_row1 h h0 h1 h2 h3 h4 h5 h6 h7 h8 (iu hh0) (iu hh1) (iu hh2) (iu hh3) (iu hh4) (iu hh5) (iu hh6) (iu hh7) (iu hh8))) <| wR (oLa sh44) <| wE (oCl (l_dot (A3.mk h.a3 h.a4 h.a5) h3 h4 h5 (iu hh3) (iu hh4) (iu hh5) p p0 p1 p2 (iu hp0) (iu hp1) (iu hp2))) <| wR (oLa sh32) <| wE (oCl (l_row2 h h0 h1 h2 h3 h4 h5 h6 h7 h8 (iu hh0) (iu hh1) (iu hh2) (iu hh3) (iu hh4) (iu hh5) (iu hh6) (iu hh7) (iu hh8))) <| wR (oLa sh44) <| wE (oCl (l_dot (A3.mk h.a6 h.a7 h.a8) h6 h7 h8 (iu hh6) (iu hh7) (iu hh8) p p0 p1 p2 (iu hp0) (iu hp1) (iu hp2))) <| wE (oBf ar44 ze44 zo44) <| wE (oCl (l_trip (A3.mk (ofZ (((h0 * p0) + (h1 * p1)) + (h2 * p2))) (ofZ (((h3 * p0) + (h4 * p1)) + (h5 * p2))) (ofZ (((h6 * p0) + (h7 * p1)) + (h8 * p2)))) (((h0 * p0) + (h1 * p1)) + (h2 * p2)) (((h3 * p0) + (h4 * p1)) + (h5 * p2)) (((h6 * p0) + (h7 * p1)) + (h8 * p2)) (iu bn1) (iu bn2) (iu bn3) c0 c1 c2 hc hnz)) <| wM <| wE oEx <| wE oEx <| wN (oAl 3 ze44 zo44) <| wT (oSt sh44) <| wM <| wZ) ?_
  refine pwp_seq <| kx [] [(2, some (bx (encA43 (A3.mk (ofZ c0) (ofZ c1) (ofZ c2)))))] (zR (oLa sh44) <| zT (oSt sh44) <| zZ) ?_
  refine pwp_ret ⟨_, (res_a (cs := (bx (encA43 (A3.mk (ofZ c0) (ofZ c1) (ofZ c2))))) (d := (encA43 (A3.mk (ofZ c0) (ofZ c1) (ofZ c2)))) rfl rfl sh44 rfl rfl .nil), ?_⟩
  rfl
end Go.Proofs.YtadkkhdnccljcaaGreat
