/- Part 11 of a proof: rules, plain facts, and functions walked. -/
import Derived.Test.YtadkkhdnccljcaaGreatM10
import Derived.Test.YtadkkhdnccljcaaGreatM8
import Derived.Test.YtadkkhdnccljcaaGreatM4
namespace Go.Proofs.YtadkkhdnccljcaaGreat
open Go.Fid
set_option maxRecDepth 4000
set_option linter.unusedVariables false
set_option linter.unusedSimpArgs false
theorem by30 : bytesB Tryz.prog 30 = some 32 := by kernel_rfl
theorem cb24 : callB Tryz.prog 24 = true := by kernel_rfl
theorem cb40 : callB Tryz.prog 40 = true := by kernel_rfl
theorem cb44 : callB Tryz.prog 44 = true := by kernel_rfl
theorem cb54 : callB Tryz.prog 54 = true := by kernel_rfl
theorem cb74 : callB Tryz.prog 74 = true := by kernel_rfl
theorem cb80 : callB Tryz.prog 80 = true := by kernel_rfl
theorem cb81 : callB Tryz.prog 81 = true := by kernel_rfl
theorem cb107 : callB Tryz.prog 107 = true := by kernel_rfl
theorem r_same (x y : RInt) (hx : x.gs.length ≤ 1099511627776) (hy : y.gs.length ≤ 1099511627776) : Takes Tryz.prog 74 [(encI x), (encI y)] (.val (.bool ((sameI x y)))) := by
  refine fn_intro Tryz.func74 rfl cb74 rfl ?_
  show PWp _ _ _ _ ⟨[(0, (.d (encI x))), (1, (.d (encI y)))], []⟩
  refine pwp_seq <| kx [(2, (.ref 0 0)), (3, (.ref 1 0))] [(0, some (bx (encI x))), (1, some (bx (encI y)))] (zN (oBx 0) <| zN (oBx 1) <| zM <| zZ) ?_
  refine pwp_seq <| pwp_seq <| kx [(19, (vb (!(x.neg == y.neg) || (((x.gs.length : Nat) : Int) != ((y.gs.length : Nat) : Int)))))] [] ?_ ?_
  · refine zE (oFr fo30_0) <| zR (oL1 sh4) <| zE (oFr fo30_0) <| zR (oL1 sh4) <| zE (oNb bo4) <| zE (oV (vb (!(x.neg == y.neg))) (mv_ok (by kernel_rfl))) <| ?_
    rcases hb1 : (!(x.neg == y.neg)) with _ | _
    · exact zE (oFr fo30_1) <| zR (oL1 sh28) <| zE (oLm el28) <| zE (oFr fo30_1) <| zR (oL1 sh28) <| zE (oLm el28) <| zE oNe <| zE oPo <| zZ
    · exact zK <| zK <| zK <| zK <| zK <| zK <| zK <| zE oPt <| zZ
  refine pwp_cond rfl (fun h2 => ?_) (fun h2 => ?_)
  · refine pwp_seq <| kx [(4, (vb false))] [] (zM <| zZ) ?_
    refine pwp_ret ⟨_, (.tmp (d := (.val (.bool (false)))) rfl .nil), ?_⟩
    rw [same_no1 h2]; rfl
  · obtain ⟨hn1, hn2⟩ := same_head h2
    refine pwp_skip <| pwp_seq <| pwp_seq <| kx [(5, (vin 0))] [] (zM <| zZ) ?_
    refine pwp_block <| pwp_loop (α := Nat) (fun i => ⟨[(2, (.ref 0 0)), (3, (.ref 1 0)), (5, (vin i))], [(0, some (bx (encI x))), (1, some (bx (encI y)))]⟩) (fun i => i ≤ x.gs.length ∧ x.gs.take i = y.gs.take i) (fun i => x.gs.length - i) 0 wk ⟨Nat.zero_le _, by simp⟩ ?_
    rintro i ⟨hi, hv⟩
    refine pwp_seq <| pwp_seq <| kx [(24, (vb (decide (((i : Nat) : Int) < ((x.gs.length : Nat) : Int)))))] [] (zM <| zE (oFr fo30_1) <| zR (oL1 sh28) <| zE (oLm el28) <| zE oLt <| zZ) ?_
    refine pwp_cond rfl (fun h3 => ?_) (fun h3 => ?_)
    · replace h3 := of_decide_eq_true h3
      refine pwp_skip <| pwp_seq <| pwp_block <| pwp_seq <| kd [(37, (vb ((((x.gs.getD i 0) : Nat) : Int) != (((y.gs.getD i 0) : Nat) : Int))))] [] mo (wE (oFr fo30_1) <| wR (oL1 sh28) <| wM <| wE (oXl el28 i (0 : Nat)) <| wE (oC1 sh138) <| wE (oFr fo30_1) <| wR (oL1 sh28) <| wM <| wE (oXl el28 i (0 : Nat)) <| wE (oC1 sh138) <| wE oNe <| wZ) ?_
      refine pwp_cond rfl (fun h4 => ?_) (fun h4 => ?_)
      · replace h4 := bne_iff_ne.1 h4
        refine pwp_seq <| kx [(4, (vb false))] [] (zM <| zZ) ?_
        refine pwp_ret ⟨_, (.tmp (d := (.val (.bool (false)))) rfl .nil), ?_⟩
        rw [same_no2 (by omega) h4]; rfl
      · replace h4 := bne_eq_false_iff_eq.1 h4
        refine pwp_skip <| kx [(5, (vin (i + 1)))] [] (zM <| zE (oAd (i + 1)) <| zM <| zZ) ?_
        exact ⟨(i + 1), wk, ⟨by omega, take_same (by omega) (by omega) hv h4⟩, (by first | omega | (dsimp only; omega))⟩
    · replace h3 := of_decide_eq_false h3
      have hie : i = x.gs.length := by omega
      rw [hie, List.take_length] at hv
      rw [List.take_of_length_le (by omega)] at hv
      refine pwp_exit <| pwp_seq <| kx [(4, (vb true))] [] (zM <| zZ) ?_
      refine pwp_ret ⟨_, (.tmp (d := (.val (.bool (true)))) rfl .nil), ?_⟩
      rw [same_yes hn1 hv]; rfl
theorem l_wholeI (n : Int) (hlo : -9223372036854775808 ≤ n) (hhi : n ≤ 9223372036854775807) : Takes Tryz.prog 44 [(.val (.int .i64 (n)))] (encI (ofZ n)) := by
  refine fn_intro Tryz.func44 rfl cb44 rfl ?_
  show PWp _ _ _ _ ⟨[(0, (vi n))], []⟩
  refine pwp_seq <| kx [(2, (.ref 0 0))] [(0, some (bx (encI (RInt.mk false []))))] (zN (oAl 0 ze30 zo30) <| zZ) ?_
  refine pwp_seq <| kx [] [(0, some (bx (encI (ofZ n))))] (zM <| zE (oCl (r_of n (by omega) (by omega))) <| zT (oSt sh30) <| zZ) ?_
  refine pwp_ret ⟨_, (res_a (cs := (bx (encI (ofZ n)))) (d := (encI (ofZ n))) rfl rfl sh30 rfl rfl .nil), ?_⟩
  rfl
theorem l_zero (x : RInt) (a : Int) (hx : IOk x a 5000000000) : Takes Tryz.prog 40 [(encI x)] (.val (.bool ((signI a == 0)))) := by
  refine fn_intro Tryz.func40 rfl cb40 rfl ?_
  show PWp _ _ _ _ ⟨[(0, (.d (encI x)))], []⟩
  refine pwp_seq <| kx [(1, (.ref 0 0))] [(0, some (bx (encI x)))] (zN (oBx 0) <| zM <| zZ) ?_
  refine pwp_seq <| kx [(2, (vb ((signI a) == 0)))] [] (zR (oLa sh30) <| zE (oCl (rs_sign hx (by decide))) <| zE oEq <| zM <| zZ) ?_
  refine pwp_ret ⟨_, (.tmp (d := (.val (.bool (((signI a) == 0))))) rfl .nil), ?_⟩
  rfl
theorem l_det (p : A3 RInt) (p0 p1 p2 : Int) (hp0 : IOk p.a0 p0 1000000) (hp1 : IOk p.a1 p1 1000000) (hp2 : IOk p.a2 p2 1000000) (q : A3 RInt) (q0 q1 q2 : Int) (hq0 : IOk q.a0 q0 1000000) (hq1 : IOk q.a1 q1 1000000) (hq2 : IOk q.a2 q2 1000000) (r : A3 RInt) (r0 r1 r2 : Int) (hr0 : IOk r.a0 r0 1000000) (hr1 : IOk r.a1 r1 1000000) (hr2 : IOk r.a2 r2 1000000) : Takes Tryz.prog 81 [(encA43 p), (encA43 q), (encA43 r)] (encI (ofZ (det3 p0 p1 p2 q0 q1 q2 r0 r1 r2))) := by
  refine fn_intro Tryz.func81 rfl cb81 rfl ?_
  show PWp _ _ _ _ ⟨[(0, (.d (encA43 p))), (1, (.d (encA43 q))), (2, (.d (encA43 r)))], []⟩
  refine pwp_seq <| kx [(3, (.ref 0 0)), (4, (.ref 1 0)), (5, (.ref 2 0)), (6, (.ref 3 0))] [(0, some (bx (encA43 p))), (1, some (bx (encA43 q))), (2, some (bx (encA43 r))), (3, some (bx (encI (RInt.mk false []))))] (zN (oBx 0) <| zN (oBx 1) <| zN (oBx 2) <| zN (oAl 3 ze30 zo30) <| zZ) ?_
  refine pwp_seq ?_
  have bn1 : IOk (ofZ ((q1 * r2) - (q2 * r1))) ((q1 * r2) - (q2 * r1)) 2000001 := (iok_sub (k := 2000001) (iok_mul (k := 2000000) hq1 hr2 (by decide)) (iok_mul (k := 2000000) hq2 hr1 (by decide)) (by decide))
  have bn2 : IOk (ofZ ((q2 * r0) - (q0 * r2))) ((q2 * r0) - (q0 * r2)) 2000001 := (iok_sub (k := 2000001) (iok_mul (k := 2000000) hq2 hr0 (by decide)) (iok_mul (k := 2000000) hq0 hr2 (by decide)) (by decide))
  have bn3 : IOk (ofZ ((q0 * r1) - (q1 * r0))) ((q0 * r1) - (q1 * r0)) 2000001 := (iok_sub (k := 2000001) (iok_mul (k := 2000000) hq0 hr1 (by decide)) (iok_mul (k := 2000000) hq1 hr0 (by decide)) (by decide))
  have bn4 : IOk (ofZ (((p0 * ((q1 * r2) - (q2 * r1))) + (p1 * ((q2 * r0) - (q0 * r2)))) + (p2 * ((q0 * r1) - (q1 * r0))))) (((p0 * ((q1 * r2) - (q2 * r1))) + (p1 * ((q2 * r0) - (q0 * r2)))) + (p2 * ((q0 * r1) - (q1 * r0)))) 3000003 := (iok_add (k := 3000003) (iok_add (k := 3000002) (iok_mul (k := 3000001) hp0 bn1 (by decide)) (iok_mul (k := 3000001) hp1 bn2 (by decide)) (by decide)) (iok_mul (k := 3000001) hp2 bn3 (by decide)) (by decide))
  refine kd [] [(3, some (bx (encI (ofZ (((p0 * ((q1 * r2) - (q2 * r1))) + (p1 * ((q2 * r0) - (q0 * r2)))) + (p2 * ((q0 * r1) - (q1 * r0))))))))] mo (wR (oLa sh44) <| wR (oLa sh44) <| wR (oLa sh44) <| wE (oCl (l_cross q q0 q1 q2 (iu hq0) (iu hq1) (iu hq2) r r0 r1 r2 (iu hr0) (iu hr1) (iu hr2))) <| wE (oCl (l_dot p p0 p1 p2 (iu hp0) (iu hp1) (iu hp2) (A3.mk (ofZ ((q1 * r2) - (q2 * r1))) (ofZ ((q2 * r0) - (q0 * r2))) (ofZ ((q0 * r1) - (q1 * r0)))) ((q1 * r2) - (q2 * r1)) ((q2 * r0) - (q0 * r2)) ((q0 * r1) - (q1 * r0)) (iu bn1) (iu bn2) (iu bn3))) <| wT (oSt sh30) <| wZ) ?_
  refine pwp_ret ⟨_, (res_a (cs := (bx (encI (ofZ (((p0 * ((q1 * r2) - (q2 * r1))) + (p1 * ((q2 * r0) - (q0 * r2)))) + (p2 * ((q0 * r1) - (q1 * r0)))))))) (d := (encI (ofZ (((p0 * ((q1 * r2) - (q2 * r1))) + (p1 * ((q2 * r0) - (q0 * r2)))) + (p2 * ((q0 * r1) - (q1 * r0))))))) rfl rfl sh30 rfl rfl .nil), ?_⟩
  rfl
theorem l_redN (tau : Nat) (l : List RInt) (zs : List Int) (hl : LOk 1000000 l zs) (hb : l.length ≤ 1000000) (hnz : sgnL zs = 0) : Takes Tryz.prog 107 [(.sl tau 2 (List.map encI l))] (.val (.slice none 0 0)) := by
  have hlen := hl.len
  refine fn_intro Tryz.func107 rfl cb107 rfl ?_
  show PWp _ _ _ _ ⟨[(0, (vl tau 2 encI l))], []⟩
  refine pwp_seq <| kx [] [] (zM <| zZ) ?_
  refine pwp_seq <| kx [(3, (.ref 0 0))] [(0, some (bx (encI (ofZ 0))))] (zE (oCl (l_wholeI 0 (by decide) (by decide))) <| zN (oAl 0 ze30 zo30) <| zT (oSt sh30) <| zZ) ?_
  refine pwp_seq <| kx [(4, (vin 0))] [] (zM <| zZ) ?_
  refine pwp_seq <| pwp_seq <| kx [(14, (vl tau 2 encI l)), (15, (vin l.length)), (16, (vin 0))] [] (zM <| zE (oLm el40) <| zM <| zZ) ?_
  refine pwp_block <| pwp_loop (α := Nat × Nat × Int) (fun (i, g, s) => ⟨[(0, (vl tau 2 encI l)), (3, (.ref 0 0)), (4, (vi s)), (14, (vl tau 2 encI l)), (15, (vin l.length)), (16, (vin i))], [(0, some (bx (encI (ofZ ((g : Nat) : Int)))))]⟩) (fun (i, g, s) => i ≤ l.length ∧ g = gcdL (zs.take i) ∧ s = sgnL (zs.take i)) (fun (i, g, s) => l.length - i) (0, 0, 0) wk ⟨Nat.zero_le _, rfl, rfl⟩ ?_
  rintro ⟨i, g, s⟩ ⟨hi, hgv, hsv⟩
  have hg : IOk (ofZ ((g : Nat) : Int)) ((g : Nat) : Int) 1000000 := by rw [hgv]; exact gcdL_takelen hl.all i
  refine pwp_seq <| kx [(17, (vb (decide (((i : Nat) : Int) < ((l.length : Nat) : Int)))))] [] (zE oLt <| zZ) ?_
  refine pwp_seq <| pwp_cond rfl (fun h1 => ?_) (fun h1 => ?_)
  · replace h1 := of_decide_eq_true h1
    refine pwp_skip <| pwp_seq <| pwp_block <| pwp_seq <| kx [(6, (.ref 1 0))] [(1, some (bx (encI (l.getD i (RInt.mk false [])))))] (zE (oXl el40 i (RInt.mk false [])) <| zE (oCa sh30) <| zN (oAl 1 ze30 zo30) <| zT (oSt sh30) <| zZ) ?_
    refine pwp_seq <| kx [] [(0, some (bx (encI (ofZ ((Int.gcd ((g : Nat) : Int) (zs.getD i 0) : Nat) : Int)))))] (zR (oLa sh30) <| zR (oLa sh30) <| zE (oCl (rs_gcd hg (hl.get i) (by decide) (by decide))) <| zT (oSt sh30) <| zZ) ?_
    refine pwp_seq <| kx [(24, (vb (s == 0)))] [] (zM <| zE oEq <| zZ) ?_
    refine pwp_cond (b := (s == 0)) rfl (fun h2 => ?_) (fun h2 => ?_)
    · replace h2 := eq_of_beq h2
      refine kx [(4, (vi (signI (zs.getD i 0))))] [] (zR (oLa sh30) <| zE (oCl (rs_sign (hl.get i) (by decide))) <| zM <| zZ) ?_
      refine kx [(16, (vin (i + 1)))] [] (zE (oAd (i + 1)) <| zM <| zZ) ?_
      exact ⟨(i + 1, Int.gcd ((g : Nat) : Int) (zs.getD i 0), signI (zs.getD i 0)), wk, ⟨by omega, by rw [hgv]; exact (gcdL_step (by omega)).symm, sgnL_step0 (by omega) hsv h2⟩, (by first | omega | (dsimp only; omega))⟩
    · replace h2 := ne_of_beq_false h2
      refine pwp_skip <| kx [(16, (vin (i + 1)))] [] (zE (oAd (i + 1)) <| zM <| zZ) ?_
      exact ⟨(i + 1, Int.gcd ((g : Nat) : Int) (zs.getD i 0), s), wk, ⟨by omega, by rw [hgv]; exact (gcdL_step (by omega)).symm, sgnL_step1 (by omega) hsv h2⟩, (by first | omega | (dsimp only; omega))⟩
  · replace h1 := of_decide_eq_false h1
    have hie : i = l.length := by omega
    rw [hie, hlen, List.take_length] at hgv hsv
    refine pwp_exit <| pwp_seq <| pwp_seq <| kx [(29, (vb (s == 0)))] [] (zM <| zE oEq <| zZ) ?_
    refine pwp_cond (b := (s == 0)) rfl (fun h3 => ?_) (fun h3 => ?_)
    · replace h3 := eq_of_beq h3
      refine pwp_seq <| kx [(2, (.d (.val (.slice none 0 0))))] [] (zM <| zZ) ?_
      refine pwp_ret ⟨_, (.tmp (d := (.val (.slice none 0 0))) rfl .nil), ?_⟩
      rfl
    · replace h3 := ne_of_beq_false h3
      exact absurd (hsv.trans hnz) h3
theorem l_red (tau : Nat) (l : List RInt) (zs : List Int) (hl : LOk 1000000 l zs) (hb : l.length ≤ 1000000) (hnz : sgnL zs ≠ 0) : Takes Tryz.prog 107 [(.sl tau 2 (List.map encI l))] (.sl 30 2 (List.map encI (List.map ofZ (redL zs)))) := by
  have hlen := hl.len
  refine fn_intro Tryz.func107 rfl cb107 rfl ?_
  show PWp _ _ _ _ ⟨[(0, (vl tau 2 encI l))], []⟩
  refine pwp_seq <| kx [] [] (zE (oNl 30 2) <| zZ) ?_
  refine pwp_seq <| kx [(3, (.ref 0 0))] [(0, some (bx (encI (ofZ 0))))] (zE (oCl (l_wholeI 0 (by decide) (by decide))) <| zN (oAl 0 ze30 zo30) <| zT (oSt sh30) <| zZ) ?_
  refine pwp_seq <| kx [(4, (vin 0))] [] (zM <| zZ) ?_
  refine pwp_seq <| pwp_seq <| kx [(14, (vl tau 2 encI l)), (15, (vin l.length)), (16, (vin 0))] [] (zM <| zE (oLm el40) <| zM <| zZ) ?_
  refine pwp_block <| pwp_loop (α := Nat × Nat × Int) (fun (i, g, s) => ⟨[(0, (vl tau 2 encI l)), (3, (.ref 0 0)), (4, (vi s)), (14, (vl tau 2 encI l)), (15, (vin l.length)), (16, (vin i))], [(0, some (bx (encI (ofZ ((g : Nat) : Int)))))]⟩) (fun (i, g, s) => i ≤ l.length ∧ g = gcdL (zs.take i) ∧ s = sgnL (zs.take i)) (fun (i, g, s) => l.length - i) (0, 0, 0) wk ⟨Nat.zero_le _, rfl, rfl⟩ ?_
  rintro ⟨i, g, s⟩ ⟨hi, hgv, hsv⟩
  have hg : IOk (ofZ ((g : Nat) : Int)) ((g : Nat) : Int) 1000000 := by rw [hgv]; exact gcdL_takelen hl.all i
  refine pwp_seq <| kx [(17, (vb (decide (((i : Nat) : Int) < ((l.length : Nat) : Int)))))] [] (zE oLt <| zZ) ?_
  refine pwp_seq <| pwp_cond rfl (fun h1 => ?_) (fun h1 => ?_)
  · replace h1 := of_decide_eq_true h1
    refine pwp_skip <| pwp_seq <| pwp_block <| pwp_seq <| kx [(6, (.ref 1 0))] [(1, some (bx (encI (l.getD i (RInt.mk false [])))))] (zE (oXl el40 i (RInt.mk false [])) <| zE (oCa sh30) <| zN (oAl 1 ze30 zo30) <| zT (oSt sh30) <| zZ) ?_
    refine pwp_seq <| kx [] [(0, some (bx (encI (ofZ ((Int.gcd ((g : Nat) : Int) (zs.getD i 0) : Nat) : Int)))))] (zR (oLa sh30) <| zR (oLa sh30) <| zE (oCl (rs_gcd hg (hl.get i) (by decide) (by decide))) <| zT (oSt sh30) <| zZ) ?_
    refine pwp_seq <| kx [(24, (vb (s == 0)))] [] (zM <| zE oEq <| zZ) ?_
    refine pwp_cond (b := (s == 0)) rfl (fun h2 => ?_) (fun h2 => ?_)
    · replace h2 := eq_of_beq h2
      refine kx [(4, (vi (signI (zs.getD i 0))))] [] (zR (oLa sh30) <| zE (oCl (rs_sign (hl.get i) (by decide))) <| zM <| zZ) ?_
      refine kx [(16, (vin (i + 1)))] [] (zE (oAd (i + 1)) <| zM <| zZ) ?_
      exact ⟨(i + 1, Int.gcd ((g : Nat) : Int) (zs.getD i 0), signI (zs.getD i 0)), wk, ⟨by omega, by rw [hgv]; exact (gcdL_step (by omega)).symm, sgnL_step0 (by omega) hsv h2⟩, (by first | omega | (dsimp only; omega))⟩
    · replace h2 := ne_of_beq_false h2
      refine pwp_skip <| kx [(16, (vin (i + 1)))] [] (zE (oAd (i + 1)) <| zM <| zZ) ?_
      exact ⟨(i + 1, Int.gcd ((g : Nat) : Int) (zs.getD i 0), s), wk, ⟨by omega, by rw [hgv]; exact (gcdL_step (by omega)).symm, sgnL_step1 (by omega) hsv h2⟩, (by first | omega | (dsimp only; omega))⟩
  · replace h1 := of_decide_eq_false h1
    have hie : i = l.length := by omega
    rw [hie, hlen, List.take_length] at hgv hsv
    refine pwp_exit <| pwp_seq <| pwp_seq <| kx [(29, (vb (s == 0)))] [] (zM <| zE oEq <| zZ) ?_
    refine pwp_cond (b := (s == 0)) rfl (fun h3 => ?_) (fun h3 => ?_)
    · replace h3 := eq_of_beq h3
      exact absurd (hsv.symm.trans h3) hnz
    · replace h3 := ne_of_beq_false h3
      refine pwp_skip <| pwp_seq <| pwp_seq <| kx [(31, (vb (decide (s < 0))))] [] (zM <| zE oLt <| zZ) ?_
      refine pwp_cond (b := decide (s < 0)) rfl (fun h4 => ?_) (fun h4 => ?_)
      · replace h4 := of_decide_eq_true h4
        have hdv := dv_neg hsv hgv h4
        have hd0 : (-((g : Nat) : Int)) ≠ 0 := by rw [← hdv]; exact dvL_ne hnz
        refine kx [] [(0, some (bx (encI (ofZ (-((g : Nat) : Int))))))] (zR (oLa sh30) <| zE (oCl (rs_neg hg (by decide))) <| zT (oSt sh30) <| zZ) ?_
        refine pwp_seq <| kx [(7, (.own 2 30 2 0))] [(2, some (bxs encI []))] (zN (oBo 2 el40 ze30 zo30) <| zM <| zZ) ?_
        refine pwp_seq <| pwp_seq <| kx [(35, (vl tau 2 encI l)), (36, (vin l.length)), (37, (vin 0))] [] (zM <| zE (oLm el40) <| zM <| zZ) ?_
        refine pwp_block <| pwp_loop (α := Nat × List RInt) (fun (j, o) => ⟨[(3, (.ref 0 0)), (7, (.own 2 30 2 o.length)), (35, (vl tau 2 encI l)), (36, (vin l.length)), (37, (vin j))], [(0, some (bx (encI (ofZ (-((g : Nat) : Int)))))), (2, some (bxs encI o))]⟩) (fun (j, o) => j ≤ l.length ∧ o = List.map ofZ ((redL zs).take j)) (fun (j, o) => l.length - j) (0, []) wk ⟨Nat.zero_le _, rfl⟩ ?_
        rintro ⟨j, o⟩ ⟨hj, hov⟩
        have hol : o.length = j := by rw [hov]; simp [redL]; omega
        refine pwp_seq <| kx [(38, (vb (decide (((j : Nat) : Int) < ((l.length : Nat) : Int)))))] [] (zE oLt <| zZ) ?_
        refine pwp_seq <| pwp_cond rfl (fun h5 => ?_) (fun h5 => ?_)
        · replace h5 := of_decide_eq_true h5
          refine pwp_skip <| pwp_seq <| pwp_block <| pwp_seq <| kx [(9, (.ref 3 0))] [(3, some (bx (encI (l.getD j (RInt.mk false [])))))] (zE (oXl el40 j (RInt.mk false [])) <| zE (oCa sh30) <| zH (oAl 3 ze30 zo30) <| zT (oSt sh30) <| zZ) ?_
          refine pwp_seq <| kx [(10, (.ref 4 0))] [(4, some (bx (encI (ofZ ((zs.getD j 0).fdiv (-((g : Nat) : Int))))))), (5, none)] (zR (oLa sh30) <| zR (oLa sh30) <| zE (oCl (rs_divide (hl.get j) (iok_neg hg) (by decide) (by decide) hd0)) <| zM <| zE oEx <| zE oEx <| zE oEx <| zH (oAl 4 ze30 zo30) <| zH (oAl 5 ze30 zo30) <| zT (oSt sh30) <| zT (oSt sh30) <| zM <| zZ) ?_
          refine kf [(7, (.own 2 30 2 ((o ++ [(ofZ ((zs.getD j 0).fdiv (-((g : Nat) : Int))))]).length)))] [(2, some (bxs encI (o ++ [(ofZ ((zs.getD j 0).fdiv (-((g : Nat) : Int))))])))] (zM <| zR (oLa sh30) <| zE (oBs el40 ze30 zo30) <| zAS encI o [(ofZ ((zs.getD j 0).fdiv (-((g : Nat) : Int))))] rfl el40 ze30 by30 <| zM <| zF) ?_
          refine kx [(37, (vin (j + 1)))] [] (zE (oAd (j + 1)) <| zM <| zZ) ?_
          exact ⟨(j + 1, o ++ [ofZ ((zs.getD j 0).fdiv (-((g : Nat) : Int)))]), wk, ⟨by omega, redL_push (by omega) hov hdv⟩, (by first | omega | (dsimp only; omega))⟩
        · replace h5 := of_decide_eq_false h5
          have hje : j = zs.length := by omega
          rw [hje, show zs.length = (redL zs).length from (redL_length zs).symm, List.take_length] at hov
          subst hov
          refine pwp_exit <| pwp_seq <| pwp_sim (publish (t := 7) (k := 2) (es := List.map encI (List.map ofZ (redL zs))) rfl rfl (pubs_cells _ _ (fun _ => rfl)) (map_len _ _ rfl) (pubs_take encI (List.map ofZ (redL zs)) (fun _ => rfl) rfl)) ?_
          refine kx [(2, (vl 30 2 encI (List.map ofZ (redL zs))))] [] (zM <| zM <| zZ) ?_
          refine pwp_ret ⟨_, (.tmp (d := (.sl 30 2 (List.map encI (List.map ofZ (redL zs))))) rfl .nil), ?_⟩
          rfl
      · replace h4 := of_decide_eq_false h4
        have hdv := dv_pos hsv hgv h4
        have hd0 : ((g : Nat) : Int) ≠ 0 := by rw [← hdv]; exact dvL_ne hnz
        refine pwp_skip <| pwp_seq <| kx [(7, (.own 6 30 2 0))] [(6, some (bxs encI []))] (zN (oBo 6 el40 ze30 zo30) <| zM <| zZ) ?_
        refine pwp_seq <| pwp_seq <| kx [(35, (vl tau 2 encI l)), (36, (vin l.length)), (37, (vin 0))] [] (zM <| zE (oLm el40) <| zM <| zZ) ?_
        refine pwp_block <| pwp_loop (α := Nat × List RInt) (fun (j, o) => ⟨[(3, (.ref 0 0)), (7, (.own 6 30 2 o.length)), (35, (vl tau 2 encI l)), (36, (vin l.length)), (37, (vin j))], [(0, some (bx (encI (ofZ ((g : Nat) : Int))))), (6, some (bxs encI o))]⟩) (fun (j, o) => j ≤ l.length ∧ o = List.map ofZ ((redL zs).take j)) (fun (j, o) => l.length - j) (0, []) wk ⟨Nat.zero_le _, rfl⟩ ?_
        rintro ⟨j, o⟩ ⟨hj, hov⟩
        have hol : o.length = j := by rw [hov]; simp [redL]; omega
        refine pwp_seq <| kx [(38, (vb (decide (((j : Nat) : Int) < ((l.length : Nat) : Int)))))] [] (zE oLt <| zZ) ?_
        refine pwp_seq <| pwp_cond rfl (fun h6 => ?_) (fun h6 => ?_)
        · replace h6 := of_decide_eq_true h6
          refine pwp_skip <| pwp_seq <| pwp_block <| pwp_seq <| kx [(9, (.ref 7 0))] [(7, some (bx (encI (l.getD j (RInt.mk false [])))))] (zE (oXl el40 j (RInt.mk false [])) <| zE (oCa sh30) <| zH (oAl 7 ze30 zo30) <| zT (oSt sh30) <| zZ) ?_
          refine pwp_seq <| kx [(10, (.ref 8 0))] [(8, some (bx (encI (ofZ ((zs.getD j 0).fdiv ((g : Nat) : Int)))))), (9, none)] (zR (oLa sh30) <| zR (oLa sh30) <| zE (oCl (rs_divide (hl.get j) hg (by decide) (by decide) hd0)) <| zM <| zE oEx <| zE oEx <| zE oEx <| zH (oAl 8 ze30 zo30) <| zH (oAl 9 ze30 zo30) <| zT (oSt sh30) <| zT (oSt sh30) <| zM <| zZ) ?_
          refine kf [(7, (.own 6 30 2 ((o ++ [(ofZ ((zs.getD j 0).fdiv ((g : Nat) : Int)))]).length)))] [(6, some (bxs encI (o ++ [(ofZ ((zs.getD j 0).fdiv ((g : Nat) : Int)))])))] (zM <| zR (oLa sh30) <| zE (oBs el40 ze30 zo30) <| zAS encI o [(ofZ ((zs.getD j 0).fdiv ((g : Nat) : Int)))] rfl el40 ze30 by30 <| zM <| zF) ?_
          refine kx [(37, (vin (j + 1)))] [] (zE (oAd (j + 1)) <| zM <| zZ) ?_
          exact ⟨(j + 1, o ++ [ofZ ((zs.getD j 0).fdiv ((g : Nat) : Int))]), wk, ⟨by omega, redL_push (by omega) hov hdv⟩, (by first | omega | (dsimp only; omega))⟩
        · replace h6 := of_decide_eq_false h6
          have hje : j = zs.length := by omega
          rw [hje, show zs.length = (redL zs).length from (redL_length zs).symm, List.take_length] at hov
          subst hov
          refine pwp_exit <| pwp_seq <| pwp_sim (publish (t := 7) (k := 6) (es := List.map encI (List.map ofZ (redL zs))) rfl rfl (pubs_cells _ _ (fun _ => rfl)) (map_len _ _ rfl) (pubs_take encI (List.map ofZ (redL zs)) (fun _ => rfl) rfl)) ?_
          refine kx [(2, (vl 30 2 encI (List.map ofZ (redL zs))))] [] (zM <| zM <| zZ) ?_
          refine pwp_ret ⟨_, (.tmp (d := (.sl 30 2 (List.map encI (List.map ofZ (redL zs))))) rfl .nil), ?_⟩
          rfl
theorem l_tripF (p : A3 RInt) (p0 p1 p2 : Int) (hp0 : IOk p.a0 p0 1000000) (hp1 : IOk p.a1 p1 1000000) (hp2 : IOk p.a2 p2 1000000) (hnz : sgnL [p0, p1, p2] = 0) : Takes Tryz.prog 54 [(encA43 p)] (.tup [(encA43 (A3.mk (RInt.mk false []) (RInt.mk false []) (RInt.mk false []))), (.val (.bool (false)))]) := by
  refine fn_intro Tryz.func54 rfl cb54 rfl ?_
  show PWp _ _ _ _ ⟨[(0, (.d (encA43 p)))], []⟩
  refine pwp_seq <| kx [(1, (.ref 0 0)), (2, (.ref 1 0))] [(0, some (bx (encA43 p))), (1, some (bx (encA43 (A3.mk (RInt.mk false []) (RInt.mk false []) (RInt.mk false [])))))] (zN (oBx 0) <| zN (oAl 1 ze44 zo44) <| zM <| zZ) ?_
  refine pwp_seq <| kx [(4, (.d (.val (.slice none 0 0))))] [] (zE (e_slv (by exact rfl) ar44 (by exact rfl) (by kernel_rfl) (by kernel_rfl)) <| zR ⟨(bx (encA43 p)), e_clv (es := List.map encI [p.a0, p.a1, p.a2]) (l_redN 1000000 [p.a0, p.a1, p.a2] [p0, p1, p2] (.cons hp0 (.cons hp1 (.cons hp2 .nil))) (Nat.le_of_ble_eq_true rfl) hnz) (by exact rfl) (by kernel_rfl) (by exact rfl) (.v .nil) (pubs_cells _ _ (fun _ => rfl)) (by kernel_rfl) (by kernel_rfl) (.val _), by kernel_rfl⟩ <| zM <| zZ) ?_
  refine pwp_seq <| pwp_seq <| kx [(8, (vb true))] [] (zM <| zE (oNu el40) <| zZ) ?_
  refine pwp_cond (b := true) (by kernel_rfl) (fun _ => ?_) (fun h => by cases h)
  refine pwp_seq <| kx [(3, (vb false))] [(1, some (bx (encA43 (A3.mk (RInt.mk false []) (RInt.mk false []) (RInt.mk false [])))))] (zE (oBa ar44 ze44 zo44) <| zT (oSt sh44) <| zM <| zZ) ?_
  refine pwp_ret ⟨_, (res_a (cs := (bx (encA43 (A3.mk (RInt.mk false []) (RInt.mk false []) (RInt.mk false []))))) (d := (encA43 (A3.mk (RInt.mk false []) (RInt.mk false []) (RInt.mk false [])))) rfl rfl sh44 rfl rfl (.tmp (d := (.val (.bool (false)))) rfl .nil)), ?_⟩
  rfl
theorem l_trip (p : A3 RInt) (p0 p1 p2 : Int) (hp0 : IOk p.a0 p0 1000000) (hp1 : IOk p.a1 p1 1000000) (hp2 : IOk p.a2 p2 1000000) (c0 c1 c2 : Int) (hc : redL [p0, p1, p2] = [c0, c1, c2]) (hnz : sgnL [p0, p1, p2] ≠ 0) : Takes Tryz.prog 54 [(encA43 p)] (.tup [(encA43 (A3.mk (ofZ c0) (ofZ c1) (ofZ c2))), (.val (.bool (true)))]) := by
  refine fn_intro Tryz.func54 rfl cb54 rfl ?_
  show PWp _ _ _ _ ⟨[(0, (.d (encA43 p)))], []⟩
  refine pwp_seq <| kx [(1, (.ref 0 0)), (2, (.ref 1 0))] [(0, some (bx (encA43 p))), (1, some (bx (encA43 (A3.mk (RInt.mk false []) (RInt.mk false []) (RInt.mk false [])))))] (zN (oBx 0) <| zN (oAl 1 ze44 zo44) <| zM <| zZ) ?_
  refine pwp_seq ?_
  have bn1 : ∀ c ∈ [c0, c1, c2], IOk (ofZ c) c 1000000 := red_iok (n := 1000000) (.cons hp0 (.cons hp1 (.cons hp2 .nil))) hc
  refine kx [(4, (vl 30 2 encI [(ofZ c0), (ofZ c1), (ofZ c2)]))] [] (zE (e_slv (by exact rfl) ar44 (by exact rfl) (by kernel_rfl) (by kernel_rfl)) <| zR ⟨(bx (encA43 p)), e_clv (es := List.map encI [p.a0, p.a1, p.a2]) (by have h := l_red 1000000 [p.a0, p.a1, p.a2] [p0, p1, p2] (.cons hp0 (.cons hp1 (.cons hp2 .nil))) (Nat.le_of_ble_eq_true rfl) hnz; rw [hc] at h; exact h) (by exact rfl) (by kernel_rfl) (by exact rfl) (.v .nil) (pubs_cells _ _ (fun _ => rfl)) (by kernel_rfl) (by kernel_rfl) (avo_sl_30 (by decide) (by decide) _), by kernel_rfl⟩ <| zM <| zZ) ?_
  refine pwp_seq <| pwp_seq <| kx [(8, (vb false))] [] (zM <| zE (oNf el40) <| zZ) ?_
  refine pwp_cond (b := false) (by kernel_rfl) (fun h => by cases h) (fun _ => ?_)
  refine pwp_skip <| pwp_seq <| kx [(3, (vb true))] [(1, some (bx (encA43 (A3.mk (ofZ c0) (ofZ c1) (ofZ c2)))))] (zM <| zE (e_sap (cs := (Dat.cells (encA43 (A3.mk (ofZ c0) (ofZ c1) (ofZ c2))))) (by exact rfl) ar44 (by exact rfl) (by kernel_rfl) (by kernel_rfl) (by kernel_rfl)) <| zE (oCa sh44) <| zT (oSt sh44) <| zM <| zZ) ?_
  refine pwp_ret ⟨_, (res_a (cs := (bx (encA43 (A3.mk (ofZ c0) (ofZ c1) (ofZ c2))))) (d := (encA43 (A3.mk (ofZ c0) (ofZ c1) (ofZ c2)))) rfl rfl sh44 rfl rfl (.tmp (d := (.val (.bool (true)))) rfl .nil)), ?_⟩
  rfl
theorem l_plainV (tau : Nat) (l : List RInt) (zs : List Int) (hl : LOk 1000000 l zs) (hb : l.length ≤ 1000000) (hv : List.all l validI = false) : Takes Tryz.prog 80 [(.sl tau 2 (List.map encI l))] (.val (.bool (false))) := by
  refine fn_intro Tryz.func80 rfl cb80 rfl ?_
  show PWp _ _ _ _ ⟨[(0, (vl tau 2 encI l))], []⟩
  refine pwp_seq <| kx [] [] (zM <| zZ) ?_
  refine pwp_seq <| pwp_seq <| kx [(7, (vl tau 2 encI l)), (8, (vin l.length)), (9, (vin 0))] [] (zM <| zE (oLm el40) <| zM <| zZ) ?_
  refine pwp_block <| pwp_loop (α := Nat) (fun i => ⟨[(0, (vl tau 2 encI l)), (7, (vl tau 2 encI l)), (8, (vin l.length)), (9, (vin i))], []⟩) (fun i => i ≤ l.length ∧ (l.take i).all validI = true) (fun i => l.length - i) 0 wk ⟨Nat.zero_le _, by simp⟩ ?_
  rintro i ⟨hi, hal⟩
  refine pwp_seq <| kx [(10, (vb (decide (((i : Nat) : Int) < ((l.length : Nat) : Int)))))] [] (zE oLt <| zZ) ?_
  refine pwp_seq <| pwp_cond rfl (fun h1 => ?_) (fun h1 => ?_)
  · replace h1 := of_decide_eq_true h1
    refine pwp_skip <| pwp_seq <| pwp_block <| pwp_seq <| kx [(4, (.ref 0 0))] [(0, some (bx (encI (l.getD i (RInt.mk false [])))))] (zE (oXl el40 i (RInt.mk false [])) <| zE (oCa sh30) <| zN (oAl 0 ze30 zo30) <| zT (oSt sh30) <| zZ) ?_
    refine pwp_seq <| kx [(15, (vb (!(validI (l.getD i (RInt.mk false []))))))] [] (zR (oLa sh30) <| zE (oCl (r_valid (l.getD i (RInt.mk false [])) (Nat.le_trans (hl.get i).l (by decide)))) <| zE oNt <| zZ) ?_
    refine pwp_cond (b := !(validI (l.getD i (RInt.mk false [])))) rfl (fun h2 => ?_) (fun h2 => ?_)
    · refine pwp_seq <| kx [(2, (vb false))] [] (zM <| zZ) ?_
      refine pwp_ret ⟨_, (.tmp (d := (.val (.bool (false)))) rfl .nil), ?_⟩
      rfl
    · refine pwp_skip <| kx [(9, (vin (i + 1)))] [] (zE (oAd (i + 1)) <| zM <| zZ) ?_
      exact ⟨(i + 1), wk, ⟨by omega, all_take (d := ⟨false, []⟩) (by omega) hal (by simpa using h2)⟩, (by first | omega | (dsimp only; omega))⟩
  · replace h1 := of_decide_eq_false h1
    exfalso; have hie : i = l.length := (by omega); rw [hie, List.take_length, hv] at hal; cases hal
theorem l_plain0 (tau : Nat) (l : List RInt) (zs : List Int) (hl : LOk 1000000 l zs) (hb : l.length ≤ 1000000) (hv : List.all l validI = true) (hz : sgnL zs = 0) : Takes Tryz.prog 80 [(.sl tau 2 (List.map encI l))] (.val (.bool (false))) := by
  refine fn_intro Tryz.func80 rfl cb80 rfl ?_
  show PWp _ _ _ _ ⟨[(0, (vl tau 2 encI l))], []⟩
  refine pwp_seq <| kx [] [] (zM <| zZ) ?_
  refine pwp_seq <| pwp_seq <| kx [(7, (vl tau 2 encI l)), (8, (vin l.length)), (9, (vin 0))] [] (zM <| zE (oLm el40) <| zM <| zZ) ?_
  refine pwp_block <| pwp_loop (α := Nat) (fun i => ⟨[(0, (vl tau 2 encI l)), (7, (vl tau 2 encI l)), (8, (vin l.length)), (9, (vin i))], []⟩) (fun i => i ≤ l.length) (fun i => l.length - i) 0 wk (Nat.zero_le _) ?_
  rintro i hi
  refine pwp_seq <| kx [(10, (vb (decide (((i : Nat) : Int) < ((l.length : Nat) : Int)))))] [] (zE oLt <| zZ) ?_
  refine pwp_seq <| pwp_cond rfl (fun h1 => ?_) (fun h1 => ?_)
  · replace h1 := of_decide_eq_true h1
    refine pwp_skip <| pwp_seq <| pwp_block <| pwp_seq <| kx [(4, (.ref 0 0))] [(0, some (bx (encI (l.getD i (RInt.mk false [])))))] (zE (oXl el40 i (RInt.mk false [])) <| zE (oCa sh30) <| zN (oAl 0 ze30 zo30) <| zT (oSt sh30) <| zZ) ?_
    refine pwp_seq <| kx [(15, (vb false))] [] (zR (oLa sh30) <| zE (oBk true (oCl (r_valid (l.getD i (RInt.mk false [])) (Nat.le_trans (hl.get i).l (by decide)))) (by exact (all_getD hv (by omega)))) <| zE oNt <| zZ) ?_
    refine pwp_cond (b := false) (by kernel_rfl) (fun h => by cases h) (fun _ => ?_)
    refine pwp_skip <| kx [(9, (vin (i + 1)))] [] (zE (oAd (i + 1)) <| zM <| zZ) ?_
    exact ⟨(i + 1), wk, (by show i + 1 ≤ l.length; omega), (by first | omega | (dsimp only; omega))⟩
  · replace h1 := of_decide_eq_false h1
    refine pwp_exit <| pwp_seq <| kx [(5, (.d (.val (.slice none 0 0))))] [] (zM <| zE (oCl (l_redN tau l zs hl hb hz)) <| zM <| zZ) ?_
    refine pwp_seq <| pwp_seq <| kx [(20, (vb true))] [] (zM <| zE (oNu el40) <| zZ) ?_
    refine pwp_cond (b := true) (by kernel_rfl) (fun _ => ?_) (fun h => by cases h)
    refine pwp_seq <| kx [(2, (vb false))] [] (zM <| zZ) ?_
    refine pwp_ret ⟨_, (.tmp (d := (.val (.bool (false)))) rfl .nil), ?_⟩
    rfl
theorem l_plainT (tau : Nat) (l : List RInt) (zs : List Int) (hl : LOk 1000000 l zs) (hb : l.length ≤ 1000000) (hv : List.all l validI = true) (hnz : sgnL zs ≠ 0) (hd : dvL zs = 1) : Takes Tryz.prog 80 [(.sl tau 2 (List.map encI l))] (.val (.bool (true))) := by
  have hlen := hl.len
  have hpos := sgnL_pos hnz
  refine fn_intro Tryz.func80 rfl cb80 rfl ?_
  show PWp _ _ _ _ ⟨[(0, (vl tau 2 encI l))], []⟩
  refine pwp_seq <| kx [] [] (zM <| zZ) ?_
  refine pwp_seq <| pwp_seq <| kx [(7, (vl tau 2 encI l)), (8, (vin l.length)), (9, (vin 0))] [] (zM <| zE (oLm el40) <| zM <| zZ) ?_
  refine pwp_block <| pwp_loop (α := Nat) (fun i => ⟨[(0, (vl tau 2 encI l)), (7, (vl tau 2 encI l)), (8, (vin l.length)), (9, (vin i))], []⟩) (fun i => i ≤ l.length) (fun i => l.length - i) 0 wk (Nat.zero_le _) ?_
  rintro i hi
  refine pwp_seq <| kx [(10, (vb (decide (((i : Nat) : Int) < ((l.length : Nat) : Int)))))] [] (zE oLt <| zZ) ?_
  refine pwp_seq <| pwp_cond rfl (fun h1 => ?_) (fun h1 => ?_)
  · replace h1 := of_decide_eq_true h1
    refine pwp_skip <| pwp_seq <| pwp_block <| pwp_seq <| kx [(4, (.ref 0 0))] [(0, some (bx (encI (l.getD i (RInt.mk false [])))))] (zE (oXl el40 i (RInt.mk false [])) <| zE (oCa sh30) <| zN (oAl 0 ze30 zo30) <| zT (oSt sh30) <| zZ) ?_
    refine pwp_seq <| kx [(15, (vb false))] [] (zR (oLa sh30) <| zE (oBk true (oCl (r_valid (l.getD i (RInt.mk false [])) (Nat.le_trans (hl.get i).l (by decide)))) (by exact (all_getD hv (by omega)))) <| zE oNt <| zZ) ?_
    refine pwp_cond (b := false) (by kernel_rfl) (fun h => by cases h) (fun _ => ?_)
    refine pwp_skip <| kx [(9, (vin (i + 1)))] [] (zE (oAd (i + 1)) <| zM <| zZ) ?_
    exact ⟨(i + 1), wk, (by show i + 1 ≤ l.length; omega), (by first | omega | (dsimp only; omega))⟩
  · replace h1 := of_decide_eq_false h1
    refine pwp_exit <| pwp_seq <| kx [(5, (vl 30 2 encI (List.map ofZ (redL zs))))] [] (zM <| zE (oCl (l_red tau l zs hl hb hnz)) <| zM <| zZ) ?_
    refine pwp_seq <| pwp_seq <| kx [(20, (vb false))] [] (zM <| zE (oNf el40 (hl := by exact (by simp [redL]; omega))) <| zZ) ?_
    refine pwp_cond (b := false) (by kernel_rfl) (fun h => by cases h) (fun _ => ?_)
    refine pwp_skip <| pwp_seq <| pwp_seq <| kx [(22, (vin l.length)), (23, (vin 0))] [] (zM <| zE (oLm el40) <| zM <| zZ) ?_
    refine pwp_block <| pwp_loop (α := Nat) (fun i => ⟨[(0, (vl tau 2 encI l)), (5, (vl 30 2 encI (List.map ofZ (redL zs)))), (22, (vin l.length)), (23, (vin i))], []⟩) (fun i => i ≤ l.length) (fun i => l.length - i) 0 wk (Nat.zero_le _) ?_
    rintro i hi
    refine pwp_seq <| kx [(24, (vb (decide (((i : Nat) : Int) < ((l.length : Nat) : Int)))))] [] (zE oLt <| zZ) ?_
    refine pwp_seq <| pwp_cond rfl (fun h2 => ?_) (fun h2 => ?_)
    · replace h2 := of_decide_eq_true h2
      refine pwp_skip <| pwp_seq <| pwp_block <| pwp_seq <| kx [(6, (vin i))] [] (zM <| zM <| zZ) ?_
      refine pwp_seq <| kd [(35, (vb false))] [] mo (wM <| wM <| wE (oXl el40 i (RInt.mk false [])) <| wE (oCa sh30) <| wM <| wM <| wE (oXl el40 i (RInt.mk false []) (L := (List.map ofZ (redL zs))) (hj := by first | omega | (rw [List.length_map, redL_length]; omega)) (h1 := by first | omega | (rw [List.length_map, redL_length]; omega))) <| wE (oCa sh30) <| wE (oBk true (oCl (r_same (l.getD i (RInt.mk false [])) ((List.map ofZ (redL zs)).getD i (RInt.mk false [])) (Nat.le_trans (hl.get i).l (by decide)) (Nat.le_trans (redL_iok hl i).l (by decide)))) (by exact (plain_same hl hv hd (by omega)))) <| wE oNt <| wZ) ?_
      refine pwp_cond (b := false) (by kernel_rfl) (fun h => by cases h) (fun _ => ?_)
      refine pwp_skip <| kx [(23, (vin (i + 1)))] [] (zE (oAd (i + 1)) <| zM <| zZ) ?_
      exact ⟨(i + 1), wk, (by show i + 1 ≤ l.length; omega), (by first | omega | (dsimp only; omega))⟩
    · replace h2 := of_decide_eq_false h2
      refine pwp_exit <| pwp_seq <| kx [(2, (vb true))] [] (zM <| zZ) ?_
      refine pwp_ret ⟨_, (.tmp (d := (.val (.bool (true)))) rfl .nil), ?_⟩
      rfl
theorem l_plainF (tau : Nat) (l : List RInt) (zs : List Int) (hl : LOk 1000000 l zs) (hb : l.length ≤ 1000000) (hv : List.all l validI = true) (hnz : sgnL zs ≠ 0) (hd : dvL zs ≠ 1) : Takes Tryz.prog 80 [(.sl tau 2 (List.map encI l))] (.val (.bool (false))) := by
  have hlen := hl.len
  have hpos := sgnL_pos hnz
  refine fn_intro Tryz.func80 rfl cb80 rfl ?_
  show PWp _ _ _ _ ⟨[(0, (vl tau 2 encI l))], []⟩
  refine pwp_seq <| kx [] [] (zM <| zZ) ?_
  refine pwp_seq <| pwp_seq <| kx [(7, (vl tau 2 encI l)), (8, (vin l.length)), (9, (vin 0))] [] (zM <| zE (oLm el40) <| zM <| zZ) ?_
  refine pwp_block <| pwp_loop (α := Nat) (fun i => ⟨[(0, (vl tau 2 encI l)), (7, (vl tau 2 encI l)), (8, (vin l.length)), (9, (vin i))], []⟩) (fun i => i ≤ l.length) (fun i => l.length - i) 0 wk (Nat.zero_le _) ?_
  rintro i hi
  refine pwp_seq <| kx [(10, (vb (decide (((i : Nat) : Int) < ((l.length : Nat) : Int)))))] [] (zE oLt <| zZ) ?_
  refine pwp_seq <| pwp_cond rfl (fun h1 => ?_) (fun h1 => ?_)
  · replace h1 := of_decide_eq_true h1
    refine pwp_skip <| pwp_seq <| pwp_block <| pwp_seq <| kx [(4, (.ref 0 0))] [(0, some (bx (encI (l.getD i (RInt.mk false [])))))] (zE (oXl el40 i (RInt.mk false [])) <| zE (oCa sh30) <| zN (oAl 0 ze30 zo30) <| zT (oSt sh30) <| zZ) ?_
    refine pwp_seq <| kx [(15, (vb false))] [] (zR (oLa sh30) <| zE (oBk true (oCl (r_valid (l.getD i (RInt.mk false [])) (Nat.le_trans (hl.get i).l (by decide)))) (by exact (all_getD hv (by omega)))) <| zE oNt <| zZ) ?_
    refine pwp_cond (b := false) (by kernel_rfl) (fun h => by cases h) (fun _ => ?_)
    refine pwp_skip <| kx [(9, (vin (i + 1)))] [] (zE (oAd (i + 1)) <| zM <| zZ) ?_
    exact ⟨(i + 1), wk, (by show i + 1 ≤ l.length; omega), (by first | omega | (dsimp only; omega))⟩
  · replace h1 := of_decide_eq_false h1
    refine pwp_exit <| pwp_seq <| kx [(5, (vl 30 2 encI (List.map ofZ (redL zs))))] [] (zM <| zE (oCl (l_red tau l zs hl hb hnz)) <| zM <| zZ) ?_
    refine pwp_seq <| pwp_seq <| kx [(20, (vb false))] [] (zM <| zE (oNf el40 (hl := by exact (by simp [redL]; omega))) <| zZ) ?_
    refine pwp_cond (b := false) (by kernel_rfl) (fun h => by cases h) (fun _ => ?_)
    refine pwp_skip <| pwp_seq <| pwp_seq <| kx [(22, (vin l.length)), (23, (vin 0))] [] (zM <| zE (oLm el40) <| zM <| zZ) ?_
    refine pwp_block <| pwp_loop (α := Nat) (fun i => ⟨[(0, (vl tau 2 encI l)), (5, (vl 30 2 encI (List.map ofZ (redL zs)))), (22, (vin l.length)), (23, (vin i))], []⟩) (fun i => i ≤ l.length ∧ l.take i = (List.map ofZ (redL zs)).take i) (fun i => l.length - i) 0 wk ⟨Nat.zero_le _, by simp⟩ ?_
    rintro i ⟨hi, hal⟩
    refine pwp_seq <| kx [(24, (vb (decide (((i : Nat) : Int) < ((l.length : Nat) : Int)))))] [] (zE oLt <| zZ) ?_
    refine pwp_seq <| pwp_cond rfl (fun h2 => ?_) (fun h2 => ?_)
    · replace h2 := of_decide_eq_true h2
      refine pwp_skip <| pwp_seq <| pwp_block <| pwp_seq <| kx [(6, (vin i))] [] (zM <| zM <| zZ) ?_
      refine pwp_seq <| kd [(35, (vb (!(sameI (l.getD i (RInt.mk false [])) ((List.map ofZ (redL zs)).getD i (RInt.mk false []))))))] [] mo (wM <| wM <| wE (oXl el40 i (RInt.mk false [])) <| wE (oCa sh30) <| wM <| wM <| wE (oXl el40 i (RInt.mk false []) (L := (List.map ofZ (redL zs))) (hj := by first | omega | (rw [List.length_map, redL_length]; omega)) (h1 := by first | omega | (rw [List.length_map, redL_length]; omega))) <| wE (oCa sh30) <| wE (oCl (r_same (l.getD i (RInt.mk false [])) ((List.map ofZ (redL zs)).getD i (RInt.mk false [])) (Nat.le_trans (hl.get i).l (by decide)) (Nat.le_trans (redL_iok hl i).l (by decide)))) <| wE oNt <| wZ) ?_
      refine pwp_cond rfl (fun h3 => ?_) (fun h3 => ?_)
      · refine pwp_seq <| kx [(2, (vb false))] [] (zM <| zZ) ?_
        refine pwp_ret ⟨_, (.tmp (d := (.val (.bool (false)))) rfl .nil), ?_⟩
        rfl
      · refine pwp_skip <| kx [(23, (vin (i + 1)))] [] (zE (oAd (i + 1)) <| zM <| zZ) ?_
        exact ⟨(i + 1), wk, ⟨by omega, plain_step (by omega) (by rw [List.length_map, redL_length]; omega) hal (by simpa using h3)⟩, (by first | omega | (dsimp only; omega))⟩
    · replace h2 := of_decide_eq_false h2
      exfalso; have hie : i = l.length := (by omega); exact hd (plain_end hl hnz (by rw [hie] at hal; exact hal))
theorem l_plain (tau : Nat) (l : List RInt) (zs : List Int) (hl : LOk 1000000 l zs) (hb : l.length ≤ 1000000) : Takes Tryz.prog 80 [.sl tau 2 (List.map encI l)] (.val (.bool (redB l))) := by
  rcases hv : List.all l validI with _ | _
  · have h := l_plainV tau l zs hl hb hv
    rw [show redB l = false from by unfold redB; rw [hv]; rfl]; exact h
  by_cases hz : sgnL zs = 0
  · rw [show redB l = false from by rw [redB_eq hl hv, hz]; rfl]; exact l_plain0 tau l zs hl hb hv hz
  by_cases hd : dvL zs = 1
  · rw [show redB l = true from redB_yes hl hv hz hd]; exact l_plainT tau l zs hl hb hv hz hd
  · rw [show redB l = false from redB_no hl hd]; exact l_plainF tau l zs hl hb hv hz hd
theorem l_proper (p : A3 RInt) (p0 p1 p2 : Int) (hp0 : IOk p.a0 p0 1000000) (hp1 : IOk p.a1 p1 1000000) (hp2 : IOk p.a2 p2 1000000) : Takes Tryz.prog 24 [(encA43 p)] (.val (.bool ((redB [p.a0, p.a1, p.a2])))) := by
  refine fn_intro Tryz.func24 rfl cb24 rfl ?_
  show PWp _ _ _ _ ⟨[(0, (.d (encA43 p)))], []⟩
  refine pwp_seq <| kx [(1, (.ref 0 0))] [(0, some (bx (encA43 p)))] (zN (oBx 0) <| zM <| zZ) ?_
  refine pwp_seq <| kx [(2, (vb (redB [p.a0, p.a1, p.a2])))] [] (zE (e_slv (by exact rfl) ar44 (by exact rfl) (by kernel_rfl) (by kernel_rfl)) <| zR ⟨(bx (encA43 p)), e_clv (es := List.map encI [p.a0, p.a1, p.a2]) (l_plain 1000000 [p.a0, p.a1, p.a2] [p0, p1, p2] (.cons hp0 (.cons hp1 (.cons hp2 .nil))) (Nat.le_of_ble_eq_true rfl)) (by exact rfl) (by kernel_rfl) (by exact rfl) (.v .nil) (pubs_cells _ _ (fun _ => rfl)) (by kernel_rfl) (by kernel_rfl) (.val _), by kernel_rfl⟩ <| zM <| zZ) ?_
  refine pwp_ret ⟨_, (.tmp (d := (.val (.bool ((redB [p.a0, p.a1, p.a2]))))) rfl .nil), ?_⟩
  rfl
end Go.Proofs.YtadkkhdnccljcaaGreat
namespace Go.Proofs.YtadkkhdnccljcaaGreat
open Go.Fid
set_option maxRecDepth 4000
set_option linter.unusedVariables false
set_option linter.unusedSimpArgs false
theorem ar80 : arrB Tryz.prog 80 = some (9, 3, 1) := by kernel_rfl
theorem cb11 : callB Tryz.prog 11 = true := by kernel_rfl
theorem cb14 : callB Tryz.prog 14 = true := by kernel_rfl
theorem cb15 : callB Tryz.prog 15 = true := by kernel_rfl
theorem cb16 : callB Tryz.prog 16 = true := by kernel_rfl
theorem cb19 : callB Tryz.prog 19 = true := by kernel_rfl
theorem cb41 : callB Tryz.prog 41 = true := by kernel_rfl
theorem cb47 : callB Tryz.prog 47 = true := by kernel_rfl
theorem cb63 : callB Tryz.prog 63 = true := by kernel_rfl
theorem cb76 : callB Tryz.prog 76 = true := by kernel_rfl
theorem el49 : elemB Tryz.prog 49 = some (32, 18) := by kernel_rfl
theorem el65 : elemB Tryz.prog 65 = some (44, 6) := by kernel_rfl
theorem pl23 : placesB Tryz.prog 23 = some [(0, 1), (1, 1)] := by kernel_rfl
theorem pl25 : placesB Tryz.prog 25 = some [(0, 2), (2, 2)] := by kernel_rfl
theorem sh80 : shapeB Tryz.prog 80 = some (true, 9) := by kernel_rfl
theorem ze23 : zeroB Tryz.prog 23 = some [.int .i64 0, .int .i64 0] := by kernel_rfl
theorem ze26 : zeroB Tryz.prog 26 = some [.int .i64 0, .int .i64 0, .int .i64 0, .int .i64 0, .int .i64 0, .int .i64 0, .int .i64 0, .int .i64 0, .int .i64 0, .int .i64 0, .int .i64 0, .int .i64 0, .int .i64 0, .int .i64 0, .int .i64 0, .int .i64 0] := by kernel_rfl
theorem ze80 : zeroB Tryz.prog 80 = some [.int .i64 0, .int .i64 0, .int .i64 0, .int .i64 0, .int .i64 0, .int .i64 0, .int .i64 0, .int .i64 0, .int .i64 0] := by kernel_rfl
theorem zo23 : ZOk [.int .i64 0, .int .i64 0] [.val (.int .i64 0), .val (.int .i64 0)] := by simp [ZOk, Value.oneCell']
theorem zo26 : ZOk [.int .i64 0, .int .i64 0, .int .i64 0, .int .i64 0, .int .i64 0, .int .i64 0, .int .i64 0, .int .i64 0, .int .i64 0, .int .i64 0, .int .i64 0, .int .i64 0, .int .i64 0, .int .i64 0, .int .i64 0, .int .i64 0] [.val (.int .i64 0), .val (.int .i64 0), .val (.int .i64 0), .val (.int .i64 0), .val (.int .i64 0), .val (.int .i64 0), .val (.int .i64 0), .val (.int .i64 0), .val (.int .i64 0), .val (.int .i64 0), .val (.int .i64 0), .val (.int .i64 0), .val (.int .i64 0), .val (.int .i64 0), .val (.int .i64 0), .val (.int .i64 0)] := by simp [ZOk, Value.oneCell']
theorem zo80 : ZOk [.int .i64 0, .int .i64 0, .int .i64 0, .int .i64 0, .int .i64 0, .int .i64 0, .int .i64 0, .int .i64 0, .int .i64 0] [.val (.int .i64 0), .val (.int .i64 0), .val (.int .i64 0), .val (.int .i64 0), .val (.int .i64 0), .val (.int .i64 0), .val (.int .i64 0), .val (.int .i64 0), .val (.int .i64 0)] := by simp [ZOk, Value.oneCell']
theorem l_sameT3 (p : A3 RInt) (p0 p1 p2 : Int) (hp0 : IOk p.a0 p0 1000000) (hp1 : IOk p.a1 p1 1000000) (hp2 : IOk p.a2 p2 1000000) (q : A3 RInt) (q0 q1 q2 : Int) (hq0 : IOk q.a0 q0 1000000) (hq1 : IOk q.a1 q1 1000000) (hq2 : IOk q.a2 q2 1000000) (hv0 : validI p.a0 = true) (hv1 : validI p.a1 = true) (hv2 : validI p.a2 = true) (hs0 : sameI p.a0 q.a0 = true) (hs1 : sameI p.a1 q.a1 = true) (hs2 : sameI p.a2 q.a2 = true) : Takes Tryz.prog 16 [(encA43 p), (encA43 q)] (.val (.bool (true))) := by
  refine fn_intro Tryz.func16 rfl cb16 rfl ?_
  show PWp _ _ _ _ ⟨[(0, (.d (encA43 p))), (1, (.d (encA43 q)))], []⟩
  refine pwp_seq <| kx [(2, (.ref 0 0)), (3, (.ref 1 0))] [(0, some (bx (encA43 p))), (1, some (bx (encA43 q)))] (zN (oBx 0) <| zN (oBx 1) <| zM <| zZ) ?_
  refine pwp_seq <| pwp_seq <| kx [(6, (vin 0))] [] (zM <| zZ) ?_
  refine pwp_block <| pwp_rounds 20 ?_
  refine pwp_round <| pwp_seq <| kx [(7, (vb true))] [] (zE (oBk true oLt) <| zZ) ?_
  refine pwp_seq <| pwp_cond (b := true) (by kernel_rfl) (fun _ => ?_) (fun h => by cases h)
  refine pwp_skip <| pwp_seq <| pwp_block <| pwp_seq <| kx [(5, (vin 0))] [] (zM <| zM <| zZ) ?_
  refine pwp_seq <| kd [(23, (vb false))] [] mo (wM <| wE (oXr ar44 0) <| wR (oLa sh30) <| wE (oBk true (oCl (r_valid p.a0 (Nat.le_trans hp0.l (by decide)))) (by exact hv0)) <| wE oNt <| wM <| wM <| wE (oXr ar44 0) <| wR (oLa sh30) <| wM <| wE (oXr ar44 0) <| wR (oLa sh30) <| wE (oBk true (oCl (r_same p.a0 q.a0 (Nat.le_trans hp0.l (by decide)) (Nat.le_trans hq0.l (by decide)))) (by exact hs0)) <| wE oNt <| wE oPf <| wZ) ?_
  refine pwp_cond (b := false) (by kernel_rfl) (fun h => by cases h) (fun _ => ?_)
  refine pwp_skip <| kx [(6, (vin 1))] [] (zE (oAd 1 (hr := by decide)) <| zM <| zZ) ?_
  refine pwp_again (SimImp.refl _) ?_
  refine pwp_seq <| kx [(7, (vb true))] [] (zE (oBk true oLt) <| zZ) ?_
  refine pwp_seq <| pwp_cond (b := true) (by kernel_rfl) (fun _ => ?_) (fun h => by cases h)
  refine pwp_skip <| pwp_seq <| pwp_block <| pwp_seq <| kx [(5, (vin 1))] [] (zM <| zM <| zZ) ?_
  refine pwp_seq <| kd [(23, (vb false))] [] mo (wM <| wE (oXr ar44 1) <| wR (oLa sh30) <| wE (oBk true (oCl (r_valid p.a1 (Nat.le_trans hp1.l (by decide)))) (by exact hv1)) <| wE oNt <| wM <| wM <| wE (oXr ar44 1) <| wR (oLa sh30) <| wM <| wE (oXr ar44 1) <| wR (oLa sh30) <| wE (oBk true (oCl (r_same p.a1 q.a1 (Nat.le_trans hp1.l (by decide)) (Nat.le_trans hq1.l (by decide)))) (by exact hs1)) <| wE oNt <| wE oPf <| wZ) ?_
  refine pwp_cond (b := false) (by kernel_rfl) (fun h => by cases h) (fun _ => ?_)
  refine pwp_skip <| kx [(6, (vin 2))] [] (zE (oAd 2 (hr := by decide)) <| zM <| zZ) ?_
  refine pwp_again (SimImp.refl _) ?_
  refine pwp_seq <| kx [(7, (vb true))] [] (zE (oBk true oLt) <| zZ) ?_
  refine pwp_seq <| pwp_cond (b := true) (by kernel_rfl) (fun _ => ?_) (fun h => by cases h)
  refine pwp_skip <| pwp_seq <| pwp_block <| pwp_seq <| kx [(5, (vin 2))] [] (zM <| zM <| zZ) ?_
  refine pwp_seq <| kd [(23, (vb false))] [] mo (wM <| wE (oXr ar44 2) <| wR (oLa sh30) <| wE (oBk true (oCl (r_valid p.a2 (Nat.le_trans hp2.l (by decide)))) (by exact hv2)) <| wE oNt <| wM <| wM <| wE (oXr ar44 2) <| wR (oLa sh30) <| wM <| wE (oXr ar44 2) <| wR (oLa sh30) <| wE (oBk true (oCl (r_same p.a2 q.a2 (Nat.le_trans hp2.l (by decide)) (Nat.le_trans hq2.l (by decide)))) (by exact hs2)) <| wE oNt <| wE oPf <| wZ) ?_
  refine pwp_cond (b := false) (by kernel_rfl) (fun h => by cases h) (fun _ => ?_)
  refine pwp_skip <| kx [(6, (vin 3))] [] (zE (oAd 3 (hr := by decide)) <| zM <| zZ) ?_
  refine pwp_again (SimImp.refl _) ?_
  refine pwp_seq <| pwp_sim (wk (l := [(2, (.ref 0 0)), (3, (.ref 1 0)), (6, (vin 3))]) (b := [(0, some (bx (encA43 p))), (1, some (bx (encA43 q)))])) ?_
  refine kx [(7, (vb false))] [] (zE (oBk false oLt) <| zZ) ?_
  refine pwp_seq <| pwp_cond (b := false) (by kernel_rfl) (fun h => by cases h) (fun _ => ?_)
  refine pwp_exit <| pwp_seq <| kx [(4, (vb true))] [] (zM <| zZ) ?_
  refine pwp_ret ⟨_, (.tmp (d := (.val (.bool (true)))) rfl .nil), ?_⟩
  rfl
theorem l_sameT9 (p : A9 RInt) (p0 p1 p2 p3 p4 p5 p6 p7 p8 : Int) (hp0 : IOk p.a0 p0 1000000) (hp1 : IOk p.a1 p1 1000000) (hp2 : IOk p.a2 p2 1000000) (hp3 : IOk p.a3 p3 1000000) (hp4 : IOk p.a4 p4 1000000) (hp5 : IOk p.a5 p5 1000000) (hp6 : IOk p.a6 p6 1000000) (hp7 : IOk p.a7 p7 1000000) (hp8 : IOk p.a8 p8 1000000) (q : A9 RInt) (q0 q1 q2 q3 q4 q5 q6 q7 q8 : Int) (hq0 : IOk q.a0 q0 1000000) (hq1 : IOk q.a1 q1 1000000) (hq2 : IOk q.a2 q2 1000000) (hq3 : IOk q.a3 q3 1000000) (hq4 : IOk q.a4 q4 1000000) (hq5 : IOk q.a5 q5 1000000) (hq6 : IOk q.a6 q6 1000000) (hq7 : IOk q.a7 q7 1000000) (hq8 : IOk q.a8 q8 1000000) (hv0 : validI p.a0 = true) (hv1 : validI p.a1 = true) (hv2 : validI p.a2 = true) (hv3 : validI p.a3 = true) (hv4 : validI p.a4 = true) (hv5 : validI p.a5 = true) (hv6 : validI p.a6 = true) (hv7 : validI p.a7 = true) (hv8 : validI p.a8 = true) (hs0 : sameI p.a0 q.a0 = true) (hs1 : sameI p.a1 q.a1 = true) (hs2 : sameI p.a2 q.a2 = true) (hs3 : sameI p.a3 q.a3 = true) (hs4 : sameI p.a4 q.a4 = true) (hs5 : sameI p.a5 q.a5 = true) (hs6 : sameI p.a6 q.a6 = true) (hs7 : sameI p.a7 q.a7 = true) (hs8 : sameI p.a8 q.a8 = true) : Takes Tryz.prog 15 [(encA31 p), (encA31 q)] (.val (.bool (true))) := by
  refine fn_intro Tryz.func15 rfl cb15 rfl ?_
  show PWp _ _ _ _ ⟨[(0, (.d (encA31 p))), (1, (.d (encA31 q)))], []⟩
  refine pwp_seq <| kx [(2, (.ref 0 0)), (3, (.ref 1 0))] [(0, some (bx (encA31 p))), (1, some (bx (encA31 q)))] (zN (oBx 0) <| zN (oBx 1) <| zM <| zZ) ?_
  refine pwp_seq <| pwp_seq <| kx [(6, (vin 0))] [] (zM <| zZ) ?_
  refine pwp_block <| pwp_rounds 20 ?_
  refine pwp_round <| pwp_seq <| kx [(7, (vb true))] [] (zE (oBk true oLt) <| zZ) ?_
  refine pwp_seq <| pwp_cond (b := true) (by kernel_rfl) (fun _ => ?_) (fun h => by cases h)
  refine pwp_skip <| pwp_seq <| pwp_block <| pwp_seq <| kx [(5, (vin 0))] [] (zM <| zM <| zZ) ?_
  refine pwp_seq <| kd [(23, (vb false))] [] mo (wM <| wE (oXr ar32 0) <| wR (oLa sh30) <| wE (oBk true (oCl (r_valid p.a0 (Nat.le_trans hp0.l (by decide)))) (by exact hv0)) <| wE oNt <| wM <| wM <| wE (oXr ar32 0) <| wR (oLa sh30) <| wM <| wE (oXr ar32 0) <| wR (oLa sh30) <| wE (oBk true (oCl (r_same p.a0 q.a0 (Nat.le_trans hp0.l (by decide)) (Nat.le_trans hq0.l (by decide)))) (by exact hs0)) <| wE oNt <| wE oPf <| wZ) ?_
  refine pwp_cond (b := false) (by kernel_rfl) (fun h => by cases h) (fun _ => ?_)
  refine pwp_skip <| kx [(6, (vin 1))] [] (zE (oAd 1 (hr := by decide)) <| zM <| zZ) ?_
  refine pwp_again (SimImp.refl _) ?_
  refine pwp_seq <| kx [(7, (vb true))] [] (zE (oBk true oLt) <| zZ) ?_
  refine pwp_seq <| pwp_cond (b := true) (by kernel_rfl) (fun _ => ?_) (fun h => by cases h)
  refine pwp_skip <| pwp_seq <| pwp_block <| pwp_seq <| kx [(5, (vin 1))] [] (zM <| zM <| zZ) ?_
  refine pwp_seq <| kd [(23, (vb false))] [] mo (wM <| wE (oXr ar32 1) <| wR (oLa sh30) <| wE (oBk true (oCl (r_valid p.a1 (Nat.le_trans hp1.l (by decide)))) (by exact hv1)) <| wE oNt <| wM <| wM <| wE (oXr ar32 1) <| wR (oLa sh30) <| wM <| wE (oXr ar32 1) <| wR (oLa sh30) <| wE (oBk true (oCl (r_same p.a1 q.a1 (Nat.le_trans hp1.l (by decide)) (Nat.le_trans hq1.l (by decide)))) (by exact hs1)) <| wE oNt <| wE oPf <| wZ) ?_
  refine pwp_cond (b := false) (by kernel_rfl) (fun h => by cases h) (fun _ => ?_)
  refine pwp_skip <| kx [(6, (vin 2))] [] (zE (oAd 2 (hr := by decide)) <| zM <| zZ) ?_
  refine pwp_again (SimImp.refl _) ?_
  refine pwp_seq <| kx [(7, (vb true))] [] (zE (oBk true oLt) <| zZ) ?_
  refine pwp_seq <| pwp_cond (b := true) (by kernel_rfl) (fun _ => ?_) (fun h => by cases h)
  refine pwp_skip <| pwp_seq <| pwp_block <| pwp_seq <| kx [(5, (vin 2))] [] (zM <| zM <| zZ) ?_
  refine pwp_seq <| kd [(23, (vb false))] [] mo (wM <| wE (oXr ar32 2) <| wR (oLa sh30) <| wE (oBk true (oCl (r_valid p.a2 (Nat.le_trans hp2.l (by decide)))) (by exact hv2)) <| wE oNt <| wM <| wM <| wE (oXr ar32 2) <| wR (oLa sh30) <| wM <| wE (oXr ar32 2) <| wR (oLa sh30) <| wE (oBk true (oCl (r_same p.a2 q.a2 (Nat.le_trans hp2.l (by decide)) (Nat.le_trans hq2.l (by decide)))) (by exact hs2)) <| wE oNt <| wE oPf <| wZ) ?_
  refine pwp_cond (b := false) (by kernel_rfl) (fun h => by cases h) (fun _ => ?_)
  refine pwp_skip <| kx [(6, (vin 3))] [] (zE (oAd 3 (hr := by decide)) <| zM <| zZ) ?_
  refine pwp_again (SimImp.refl _) ?_
  refine pwp_seq <| pwp_sim (wk (l := [(2, (.ref 0 0)), (3, (.ref 1 0)), (6, (vin 3))]) (b := [(0, some (bx (encA31 p))), (1, some (bx (encA31 q)))])) ?_
  refine kx [(7, (vb true))] [] (zE (oBk true oLt) <| zZ) ?_
  refine pwp_seq <| pwp_cond (b := true) (by kernel_rfl) (fun _ => ?_) (fun h => by cases h)
  refine pwp_skip <| pwp_seq <| pwp_block <| pwp_seq <| kx [(5, (vin 3))] [] (zM <| zM <| zZ) ?_
  refine pwp_seq <| kd [(23, (vb false))] [] mo (wM <| wE (oXr ar32 3) <| wR (oLa sh30) <| wE (oBk true (oCl (r_valid p.a3 (Nat.le_trans hp3.l (by decide)))) (by exact hv3)) <| wE oNt <| wM <| wM <| wE (oXr ar32 3) <| wR (oLa sh30) <| wM <| wE (oXr ar32 3) <| wR (oLa sh30) <| wE (oBk true (oCl (r_same p.a3 q.a3 (Nat.le_trans hp3.l (by decide)) (Nat.le_trans hq3.l (by decide)))) (by exact hs3)) <| wE oNt <| wE oPf <| wZ) ?_
  refine pwp_cond (b := false) (by kernel_rfl) (fun h => by cases h) (fun _ => ?_)
  refine pwp_skip <| kx [(6, (vin 4))] [] (zE (oAd 4 (hr := by decide)) <| zM <| zZ) ?_
  refine pwp_again (SimImp.refl _) ?_
  refine pwp_seq <| kx [(7, (vb true))] [] (zE (oBk true oLt) <| zZ) ?_
  refine pwp_seq <| pwp_cond (b := true) (by kernel_rfl) (fun _ => ?_) (fun h => by cases h)
  refine pwp_skip <| pwp_seq <| pwp_block <| pwp_seq <| kx [(5, (vin 4))] [] (zM <| zM <| zZ) ?_
  refine pwp_seq <| kd [(23, (vb false))] [] mo (wM <| wE (oXr ar32 4) <| wR (oLa sh30) <| wE (oBk true (oCl (r_valid p.a4 (Nat.le_trans hp4.l (by decide)))) (by exact hv4)) <| wE oNt <| wM <| wM <| wE (oXr ar32 4) <| wR (oLa sh30) <| wM <| wE (oXr ar32 4) <| wR (oLa sh30) <| wE (oBk true (oCl (r_same p.a4 q.a4 (Nat.le_trans hp4.l (by decide)) (Nat.le_trans hq4.l (by decide)))) (by exact hs4)) <| wE oNt <| wE oPf <| wZ) ?_
  refine pwp_cond (b := false) (by kernel_rfl) (fun h => by cases h) (fun _ => ?_)
  refine pwp_skip <| kx [(6, (vin 5))] [] (zE (oAd 5 (hr := by decide)) <| zM <| zZ) ?_
  refine pwp_again (SimImp.refl _) ?_
  refine pwp_seq <| kx [(7, (vb true))] [] (zE (oBk true oLt) <| zZ) ?_
  refine pwp_seq <| pwp_cond (b := true) (by kernel_rfl) (fun _ => ?_) (fun h => by cases h)
  refine pwp_skip <| pwp_seq <| pwp_block <| pwp_seq <| kx [(5, (vin 5))] [] (zM <| zM <| zZ) ?_
  refine pwp_seq <| kd [(23, (vb false))] [] mo (wM <| wE (oXr ar32 5) <| wR (oLa sh30) <| wE (oBk true (oCl (r_valid p.a5 (Nat.le_trans hp5.l (by decide)))) (by exact hv5)) <| wE oNt <| wM <| wM <| wE (oXr ar32 5) <| wR (oLa sh30) <| wM <| wE (oXr ar32 5) <| wR (oLa sh30) <| wE (oBk true (oCl (r_same p.a5 q.a5 (Nat.le_trans hp5.l (by decide)) (Nat.le_trans hq5.l (by decide)))) (by exact hs5)) <| wE oNt <| wE oPf <| wZ) ?_
  refine pwp_cond (b := false) (by kernel_rfl) (fun h => by cases h) (fun _ => ?_)
  refine pwp_skip <| kx [(6, (vin 6))] [] (zE (oAd 6 (hr := by decide)) <| zM <| zZ) ?_
  refine pwp_again (SimImp.refl _) ?_
  refine pwp_seq <| kx [(7, (vb true))] [] (zE (oBk true oLt) <| zZ) ?_
  refine pwp_seq <| pwp_cond (b := true) (by kernel_rfl) (fun _ => ?_) (fun h => by cases h)
  refine pwp_skip <| pwp_seq <| pwp_block <| pwp_seq <| kx [(5, (vin 6))] [] (zM <| zM <| zZ) ?_
  refine pwp_seq <| pwp_sim (wk (l := [(2, (.ref 0 0)), (3, (.ref 1 0)), (5, (vin 6)), (6, (vin 6))]) (b := [(0, some (bx (encA31 p))), (1, some (bx (encA31 q)))])) ?_
  refine kd [(23, (vb false))] [] mo (wM <| wE (oXr ar32 6) <| wR (oLa sh30) <| wE (oBk true (oCl (r_valid p.a6 (Nat.le_trans hp6.l (by decide)))) (by exact hv6)) <| wE oNt <| wM <| wM <| wE (oXr ar32 6) <| wR (oLa sh30) <| wM <| wE (oXr ar32 6) <| wR (oLa sh30) <| wE (oBk true (oCl (r_same p.a6 q.a6 (Nat.le_trans hp6.l (by decide)) (Nat.le_trans hq6.l (by decide)))) (by exact hs6)) <| wE oNt <| wE oPf <| wZ) ?_
  refine pwp_cond (b := false) (by kernel_rfl) (fun h => by cases h) (fun _ => ?_)
  refine pwp_skip <| kx [(6, (vin 7))] [] (zE (oAd 7 (hr := by decide)) <| zM <| zZ) ?_
  refine pwp_again (SimImp.refl _) ?_
  refine pwp_seq <| kx [(7, (vb true))] [] (zE (oBk true oLt) <| zZ) ?_
  refine pwp_seq <| pwp_cond (b := true) (by kernel_rfl) (fun _ => ?_) (fun h => by cases h)
  refine pwp_skip <| pwp_seq <| pwp_block <| pwp_seq <| kx [(5, (vin 7))] [] (zM <| zM <| zZ) ?_
  refine pwp_seq <| kd [(23, (vb false))] [] mo (wM <| wE (oXr ar32 7) <| wR (oLa sh30) <| wE (oBk true (oCl (r_valid p.a7 (Nat.le_trans hp7.l (by decide)))) (by exact hv7)) <| wE oNt <| wM <| wM <| wE (oXr ar32 7) <| wR (oLa sh30) <| wM <| wE (oXr ar32 7) <| wR (oLa sh30) <| wE (oBk true (oCl (r_same p.a7 q.a7 (Nat.le_trans hp7.l (by decide)) (Nat.le_trans hq7.l (by decide)))) (by exact hs7)) <| wE oNt <| wE oPf <| wZ) ?_
  refine pwp_cond (b := false) (by kernel_rfl) (fun h => by cases h) (fun _ => ?_)
  refine pwp_skip <| kx [(6, (vin 8))] [] (zE (oAd 8 (hr := by decide)) <| zM <| zZ) ?_
  refine pwp_again (SimImp.refl _) ?_
  refine pwp_seq <| kx [(7, (vb true))] [] (zE (oBk true oLt) <| zZ) ?_
  refine pwp_seq <| pwp_cond (b := true) (by kernel_rfl) (fun _ => ?_) (fun h => by cases h)
  refine pwp_skip <| pwp_seq <| pwp_block <| pwp_seq <| kx [(5, (vin 8))] [] (zM <| zM <| zZ) ?_
  refine pwp_seq <| kd [(23, (vb false))] [] mo (wM <| wE (oXr ar32 8) <| wR (oLa sh30) <| wE (oBk true (oCl (r_valid p.a8 (Nat.le_trans hp8.l (by decide)))) (by exact hv8)) <| wE oNt <| wM <| wM <| wE (oXr ar32 8) <| wR (oLa sh30) <| wM <| wE (oXr ar32 8) <| wR (oLa sh30) <| wE (oBk true (oCl (r_same p.a8 q.a8 (Nat.le_trans hp8.l (by decide)) (Nat.le_trans hq8.l (by decide)))) (by exact hs8)) <| wE oNt <| wE oPf <| wZ) ?_
  refine pwp_cond (b := false) (by kernel_rfl) (fun h => by cases h) (fun _ => ?_)
  refine pwp_skip <| kx [(6, (vin 9))] [] (zE (oAd 9 (hr := by decide)) <| zM <| zZ) ?_
  refine pwp_again (SimImp.refl _) ?_
  refine pwp_seq <| kx [(7, (vb false))] [] (zE (oBk false oLt) <| zZ) ?_
  refine pwp_seq <| pwp_cond (b := false) (by kernel_rfl) (fun h => by cases h) (fun _ => ?_)
  refine pwp_exit <| pwp_seq <| kx [(4, (vb true))] [] (zM <| zZ) ?_
  refine pwp_ret ⟨_, (.tmp (d := (.val (.bool (true)))) rfl .nil), ?_⟩
  rfl
theorem l_empty (tau : Nat) (l : List RInt) (zs : List Int) (hl : LOk 1000000 l zs) (hb : l.length ≤ 1000000) (he : ∀ x ∈ l, x = RInt.mk false []) : Takes Tryz.prog 14 [(.sl tau 2 (List.map encI l))] (.val (.bool (true))) := by
  refine fn_intro Tryz.func14 rfl cb14 rfl ?_
  show PWp _ _ _ _ ⟨[(0, (vl tau 2 encI l))], []⟩
  refine pwp_seq <| kx [] [] (zM <| zZ) ?_
  refine pwp_seq <| pwp_seq <| kx [(5, (vl tau 2 encI l)), (6, (vin l.length)), (7, (vin 0))] [] (zM <| zE (oLm el40) <| zM <| zZ) ?_
  refine pwp_block <| pwp_loop (α := Nat) (fun i => ⟨[(5, (vl tau 2 encI l)), (6, (vin l.length)), (7, (vin i))], []⟩) (fun i => i ≤ l.length) (fun i => l.length - i) 0 wk (Nat.zero_le _) ?_
  rintro i hi
  have hx := all_nil he i
  refine pwp_seq <| kx [(8, (vb (decide (((i : Nat) : Int) < ((l.length : Nat) : Int)))))] [] (zE oLt <| zZ) ?_
  refine pwp_seq <| pwp_cond rfl (fun h1 => ?_) (fun h1 => ?_)
  · replace h1 := of_decide_eq_true h1
    refine pwp_skip <| pwp_seq <| pwp_block <| pwp_seq <| kx [(4, (.ref 0 0))] [(0, some (bx (encI (l.getD i (RInt.mk false [])))))] (zE (oXl el40 i (RInt.mk false [])) <| zE (oCa sh30) <| zN (oAl 0 ze30 zo30) <| zT (oSt sh30) <| zZ) ?_
    refine pwp_seq <| kx [(18, (vb ((l.getD i (RInt.mk false [])).neg || decide (0 < ((((l.getD i (RInt.mk false [])).gs).length : Nat) : Int)))))] [] ?_ ?_
    · refine zE (oFr fo30_0) <| zR (oL1 sh4) <| zE (oV (vb ((l.getD i (RInt.mk false [])).neg)) (mv_ok (by kernel_rfl))) <| ?_
      rcases hb2 : ((l.getD i (RInt.mk false [])).neg) with _ | _
      · exact zE (oFr fo30_1) <| zR (oL1 sh28) <| zE (oLm el28 (L := (l.getD i (RInt.mk false [])).gs)) <| zE oGt <| zE oPo <| zZ
      · exact zK <| zK <| zK <| zK <| zE oPt <| zZ
    refine pwp_cond rfl (fun h3 => ?_) (fun h3 => ?_)
    · exfalso; rw [hx] at h3; revert h3; decide
    · refine pwp_skip <| kx [(7, (vin (i + 1)))] [] (zE (oAd (i + 1)) <| zM <| zZ) ?_
      exact ⟨(i + 1), wk, (by show i + 1 ≤ l.length; omega), (by first | omega | (dsimp only; omega))⟩
  · replace h1 := of_decide_eq_false h1
    refine pwp_exit <| pwp_seq <| kx [(2, (vb true))] [] (zM <| zZ) ?_
    refine pwp_ret ⟨_, (.tmp (d := (.val (.bool (true)))) rfl .nil), ?_⟩
    rfl
theorem l_short4 (tau : Nat) (l : List RInt) (zs : List Int) (hl : LOk 140737488355328 l zs) (hb : l.length ≤ 1000000) : Takes Tryz.prog 76 [(.sl tau 2 (List.map encI l))] (.val (.bool ((List.all l short4)))) := by
  refine fn_intro Tryz.func76 rfl cb76 rfl ?_
  show PWp _ _ _ _ ⟨[(0, (vl tau 2 encI l))], []⟩
  refine pwp_seq <| kx [] [] (zM <| zZ) ?_
  refine pwp_seq <| pwp_seq <| kx [(5, (vl tau 2 encI l)), (6, (vin l.length)), (7, (vin 0))] [] (zM <| zE (oLm el40) <| zM <| zZ) ?_
  refine pwp_block <| pwp_loop (α := Nat) (fun i => ⟨[(5, (vl tau 2 encI l)), (6, (vin l.length)), (7, (vin i))], []⟩) (fun i => i ≤ l.length ∧ (l.take i).all short4 = true) (fun i => l.length - i) 0 wk ⟨Nat.zero_le _, by simp⟩ ?_
  rintro i ⟨hi, hal⟩
  refine pwp_seq <| kx [(8, (vb (decide (((i : Nat) : Int) < ((l.length : Nat) : Int)))))] [] (zE oLt <| zZ) ?_
  refine pwp_seq <| pwp_cond rfl (fun h1 => ?_) (fun h1 => ?_)
  · replace h1 := of_decide_eq_true h1
    refine pwp_skip <| pwp_seq <| pwp_block <| pwp_seq <| kx [(4, (.ref 0 0))] [(0, some (bx (encI (l.getD i (RInt.mk false [])))))] (zE (oXl el40 i (RInt.mk false [])) <| zE (oCa sh30) <| zN (oAl 0 ze30 zo30) <| zT (oSt sh30) <| zZ) ?_
    refine pwp_seq <| kx [(14, (vb (decide (4 < ((((l.getD i (RInt.mk false [])).gs).length : Nat) : Int)))))] [] (zE (oFr fo30_1) <| zR (oL1 sh28) <| zE (oLm el28 (L := (l.getD i (RInt.mk false [])).gs)) <| zE oGt <| zZ) ?_
    refine pwp_cond rfl (fun h2 => ?_) (fun h2 => ?_)
    · replace h2 := of_decide_eq_true h2
      refine pwp_seq <| kx [(2, (vb false))] [] (zM <| zZ) ?_
      refine pwp_ret ⟨_, (.tmp (d := (.val (.bool (false)))) rfl .nil), ?_⟩
      rw [all_not (f := short4) (l := l) (i := i) (d := RInt.mk false []) (by omega) (short4_no h2)]; rfl
    · replace h2 := of_decide_eq_false h2
      refine pwp_skip <| kx [(7, (vin (i + 1)))] [] (zE (oAd (i + 1)) <| zM <| zZ) ?_
      exact ⟨(i + 1), wk, ⟨by omega, all_take (d := ⟨false, []⟩) (by omega) hal (short4_yes h2)⟩, (by first | omega | (dsimp only; omega))⟩
  · replace h1 := of_decide_eq_false h1
    have hie : i = l.length := by omega
    rw [hie, List.take_length] at hal
    refine pwp_exit <| pwp_seq <| kx [(2, (vb true))] [] (zM <| zZ) ?_
    refine pwp_ret ⟨_, (.tmp (d := (.val (.bool (true)))) rfl .nil), ?_⟩
    rw [hal]; rfl
theorem l_reduce (h : A9 RInt) (h0 h1 h2 h3 h4 h5 h6 h7 h8 : Int) (hh0 : IOk h.a0 h0 1000000) (hh1 : IOk h.a1 h1 1000000) (hh2 : IOk h.a2 h2 1000000) (hh3 : IOk h.a3 h3 1000000) (hh4 : IOk h.a4 h4 1000000) (hh5 : IOk h.a5 h5 1000000) (hh6 : IOk h.a6 h6 1000000) (hh7 : IOk h.a7 h7 1000000) (hh8 : IOk h.a8 h8 1000000) (c0 c1 c2 c3 c4 c5 c6 c7 c8 : Int) (hc : redL [h0, h1, h2, h3, h4, h5, h6, h7, h8] = [c0, c1, c2, c3, c4, c5, c6, c7, c8]) (hnz : sgnL [h0, h1, h2, h3, h4, h5, h6, h7, h8] ≠ 0) (hd : signI (det3 h0 h1 h2 h3 h4 h5 h6 h7 h8) ≠ 0) : Takes Tryz.prog 47 [(encA31 h)] (.tup [(encA31 (A9.mk (ofZ c0) (ofZ c1) (ofZ c2) (ofZ c3) (ofZ c4) (ofZ c5) (ofZ c6) (ofZ c7) (ofZ c8))), (.val (.bool (true)))]) := by
  refine fn_intro Tryz.func47 rfl cb47 rfl ?_
  show PWp _ _ _ _ ⟨[(0, (.d (encA31 h)))], []⟩
  refine pwp_seq <| kx [(1, (.ref 0 0)), (2, (.ref 1 0))] [(0, some (bx (encA31 h))), (1, some (bx (encA31 (A9.mk (RInt.mk false []) (RInt.mk false []) (RInt.mk false []) (RInt.mk false []) (RInt.mk false []) (RInt.mk false []) (RInt.mk false []) (RInt.mk false []) (RInt.mk false [])))))] (zN (oBx 0) <| zN (oAl 1 ze32 zo32) <| zM <| zZ) ?_
  refine pwp_seq ?_
  have bn1 : ∀ c ∈ [c0, c1, c2, c3, c4, c5, c6, c7, c8], IOk (ofZ c) c 1000000 := red_iok (n := 1000000) (.cons hh0 (.cons hh1 (.cons hh2 (.cons hh3 (.cons hh4 (.cons hh5 (.cons hh6 (.cons hh7 (.cons hh8 .nil))))))))) hc
  refine kx [(4, (vl 30 2 encI [(ofZ c0), (ofZ c1), (ofZ c2), (ofZ c3), (ofZ c4), (ofZ c5), (ofZ c6), (ofZ c7), (ofZ c8)]))] [] (zE (e_slv (by exact rfl) ar32 (by exact rfl) (by kernel_rfl) (by kernel_rfl)) <| zR ⟨(bx (encA31 h)), e_clv (es := List.map encI [h.a0, h.a1, h.a2, h.a3, h.a4, h.a5, h.a6, h.a7, h.a8]) (by have h := l_red 1000000 [h.a0, h.a1, h.a2, h.a3, h.a4, h.a5, h.a6, h.a7, h.a8] [h0, h1, h2, h3, h4, h5, h6, h7, h8] (.cons hh0 (.cons hh1 (.cons hh2 (.cons hh3 (.cons hh4 (.cons hh5 (.cons hh6 (.cons hh7 (.cons hh8 .nil))))))))) (Nat.le_of_ble_eq_true rfl) hnz; rw [hc] at h; exact h) (by exact rfl) (by kernel_rfl) (by exact rfl) (.v .nil) (pubs_cells _ _ (fun _ => rfl)) (by kernel_rfl) (by kernel_rfl) (avo_sl_30 (by decide) (by decide) _), by kernel_rfl⟩ <| zM <| zZ) ?_
  refine pwp_seq <| pwp_seq ?_
  have bn2 : IOk (ofZ (det3 h0 h1 h2 h3 h4 h5 h6 h7 h8)) (det3 h0 h1 h2 h3 h4 h5 h6 h7 h8) 3000003 := (iok_eqz (det3_cr _ _ _ _ _ _ _ _ _) (iok_add (k := 3000003) (iok_add (k := 3000002) (iok_mul (k := 3000001) (iok_sub (k := 2000001) (iok_mul (k := 2000000) hh1 hh5 (by decide)) (iok_mul (k := 2000000) hh2 hh4 (by decide)) (by decide)) hh6 (by decide)) (iok_mul (k := 3000001) (iok_sub (k := 2000001) (iok_mul (k := 2000000) hh2 hh3 (by decide)) (iok_mul (k := 2000000) hh0 hh5 (by decide)) (by decide)) hh7 (by decide)) (by decide)) (iok_mul (k := 3000001) (iok_sub (k := 2000001) (iok_mul (k := 2000000) hh0 hh4 (by decide)) (iok_mul (k := 2000000) hh1 hh3 (by decide)) (by decide)) hh8 (by decide)) (by decide)))
  refine kd [(18, (vb false))] [] mo (wM <| wE (oNf el40) <| wM <| wR (oLa sh32) <| wE (oCl (l_row0 h h0 h1 h2 h3 h4 h5 h6 h7 h8 (iu hh0) (iu hh1) (iu hh2) (iu hh3) (iu hh4) (iu hh5) (iu hh6) (iu hh7) (iu hh8))) <| wR (oLa sh32) <| wE (oCl (l_row1 h h0 h1 h2 h3 h4 h5 h6 h7 h8 (iu hh0) (iu hh1) (iu hh2) (iu hh3) (iu hh4) (iu hh5) (iu hh6) (iu hh7) (iu hh8))) <| wR (oLa sh32) <| wE (oCl (l_row2 h h0 h1 h2 h3 h4 h5 h6 h7 h8 (iu hh0) (iu hh1) (iu hh2) (iu hh3) (iu hh4) (iu hh5) (iu hh6) (iu hh7) (iu hh8))) <| wE (oCl (l_det (A3.mk h.a0 h.a1 h.a2) h0 h1 h2 hh0 hh1 hh2 (A3.mk h.a3 h.a4 h.a5) h3 h4 h5 hh3 hh4 hh5 (A3.mk h.a6 h.a7 h.a8) h6 h7 h8 hh6 hh7 hh8)) <| wE (oBk false (oCl (l_zero (ofZ (det3 h0 h1 h2 h3 h4 h5 h6 h7 h8)) (det3 h0 h1 h2 h3 h4 h5 h6 h7 h8) (iu bn2))) (by exact beq_eq_false_iff_ne.2 hd)) <| wE oPf <| wZ) ?_
  refine pwp_cond (b := false) (by kernel_rfl) (fun h => by cases h) (fun _ => ?_)
  refine pwp_skip <| pwp_seq <| kx [(3, (vb true))] [(1, some (bx (encA31 (A9.mk (ofZ c0) (ofZ c1) (ofZ c2) (ofZ c3) (ofZ c4) (ofZ c5) (ofZ c6) (ofZ c7) (ofZ c8)))))] (zM <| zE (e_sap (cs := (Dat.cells (encA31 (A9.mk (ofZ c0) (ofZ c1) (ofZ c2) (ofZ c3) (ofZ c4) (ofZ c5) (ofZ c6) (ofZ c7) (ofZ c8))))) (by exact rfl) ar32 (by exact rfl) (by kernel_rfl) (by kernel_rfl) (by kernel_rfl)) <| zE (oCa sh32) <| zT (oSt sh32) <| zM <| zZ) ?_
  refine pwp_ret ⟨_, (res_a (cs := (bx (encA31 (A9.mk (ofZ c0) (ofZ c1) (ofZ c2) (ofZ c3) (ofZ c4) (ofZ c5) (ofZ c6) (ofZ c7) (ofZ c8))))) (d := (encA31 (A9.mk (ofZ c0) (ofZ c1) (ofZ c2) (ofZ c3) (ofZ c4) (ofZ c5) (ofZ c6) (ofZ c7) (ofZ c8)))) rfl rfl sh32 rfl rfl (.tmp (d := (.val (.bool (true)))) rfl .nil)), ?_⟩
  rfl
theorem l_made (n0 n1 n2 n3 n4 n5 n6 n7 n8 : Int) (hn0 : -1048576 ≤ n0 ∧ n0 ≤ 1048576) (hn1 : -1048576 ≤ n1 ∧ n1 ≤ 1048576) (hn2 : -1048576 ≤ n2 ∧ n2 ≤ 1048576) (hn3 : -1048576 ≤ n3 ∧ n3 ≤ 1048576) (hn4 : -1048576 ≤ n4 ∧ n4 ≤ 1048576) (hn5 : -1048576 ≤ n5 ∧ n5 ≤ 1048576) (hn6 : -1048576 ≤ n6 ∧ n6 ≤ 1048576) (hn7 : -1048576 ≤ n7 ∧ n7 ≤ 1048576) (hn8 : -1048576 ≤ n8 ∧ n8 ≤ 1048576) (c0 c1 c2 c3 c4 c5 c6 c7 c8 : Int) (hc : redL [n0, n1, n2, n3, n4, n5, n6, n7, n8] = [c0, c1, c2, c3, c4, c5, c6, c7, c8]) (hnz : sgnL [n0, n1, n2, n3, n4, n5, n6, n7, n8] ≠ 0) (hd : signI (det3 n0 n1 n2 n3 n4 n5 n6 n7 n8) ≠ 0) : Takes Tryz.prog 41 [(encA80 (A9.mk n0 n1 n2 n3 n4 n5 n6 n7 n8))] (.tup [(encA31 (A9.mk (ofZ c0) (ofZ c1) (ofZ c2) (ofZ c3) (ofZ c4) (ofZ c5) (ofZ c6) (ofZ c7) (ofZ c8))), (.val (.bool (true)))]) := by
  let y1 := (bx (encA31 (A9.mk (RInt.mk false []) (RInt.mk false []) (RInt.mk false []) (RInt.mk false []) (RInt.mk false []) (RInt.mk false []) (RInt.mk false []) (RInt.mk false []) (RInt.mk false []))))
  refine fn_intro Tryz.func41 rfl cb41 rfl ?_
  show PWp _ _ _ _ ⟨[(0, (.d (encA80 (A9.mk n0 n1 n2 n3 n4 n5 n6 n7 n8))))], []⟩
  refine pwp_seq <| kx [(1, (.ref 0 0)), (2, (.ref 1 0))] [(0, some (bx (encA80 (A9.mk n0 n1 n2 n3 n4 n5 n6 n7 n8)))), (1, some y1)] (zN (oBx 0) <| zN (oAl 1 ze32 zo32) <| zM <| zZ) ?_
  refine pwp_seq <| kx [(4, (.ref 2 0))] [(2, some y1)] (zE (oBa ar32 ze32 zo32) <| zN (oAl 2 ze32 zo32) <| zT (oSt sh32) <| zZ) ?_
  refine pwp_seq <| pwp_seq <| kx [(8, (.d (encA80 (A9.mk n0 n1 n2 n3 n4 n5 n6 n7 n8)))), (9, (vin 0))] [] (zR (oLa sh80) <| zM <| zZ) ?_
  refine pwp_block <| pwp_rounds 20 ?_
  refine pwp_round <| pwp_seq <| kx [(10, (vb true))] [] (zE (oBk true oLt) <| zZ) ?_
  refine pwp_seq <| pwp_cond (b := true) (by kernel_rfl) (fun _ => ?_) (fun h => by cases h)
  refine pwp_skip <| pwp_seq <| pwp_block <| pwp_seq <| kx [(5, (vin 0)), (6, (vi n0))] [] (zM <| zE (oXa ar80 sh3 (fun _ => rfl) 0) <| zM <| zM <| zZ) ?_
  refine kx [] [(2, some (bx (encA31 (A9.mk (ofZ n0) (RInt.mk false []) (RInt.mk false []) (RInt.mk false []) (RInt.mk false []) (RInt.mk false []) (RInt.mk false []) (RInt.mk false []) (RInt.mk false [])))))] (zM <| zM <| zE (oCl (l_wholeI n0 (by omega) (by omega))) <| zE (oXr ar32 0) <| zT (oSt sh30) <| zZ) ?_
  refine kx [(9, (vin 1))] [] (zE (oAd 1 (hr := by decide)) <| zM <| zZ) ?_
  refine pwp_again (SimImp.refl _) ?_
  refine pwp_seq <| kx [(10, (vb true))] [] (zE (oBk true oLt) <| zZ) ?_
  refine pwp_seq <| pwp_cond (b := true) (by kernel_rfl) (fun _ => ?_) (fun h => by cases h)
  refine pwp_skip <| pwp_seq <| pwp_block <| pwp_seq <| kx [(5, (vin 1)), (6, (vi n1))] [] (zM <| zE (oXa ar80 sh3 (fun _ => rfl) 1) <| zM <| zM <| zZ) ?_
  refine kx [] [(2, some (bx (encA31 (A9.mk (ofZ n0) (ofZ n1) (RInt.mk false []) (RInt.mk false []) (RInt.mk false []) (RInt.mk false []) (RInt.mk false []) (RInt.mk false []) (RInt.mk false [])))))] (zM <| zM <| zE (oCl (l_wholeI n1 (by omega) (by omega))) <| zE (oXr ar32 1) <| zT (oSt sh30) <| zZ) ?_
  refine kx [(9, (vin 2))] [] (zE (oAd 2 (hr := by decide)) <| zM <| zZ) ?_
  refine pwp_again (SimImp.refl _) ?_
  refine pwp_seq <| kx [(10, (vb true))] [] (zE (oBk true oLt) <| zZ) ?_
  refine pwp_seq <| pwp_cond (b := true) (by kernel_rfl) (fun _ => ?_) (fun h => by cases h)
  refine pwp_skip <| pwp_seq <| pwp_block <| pwp_seq <| kx [(5, (vin 2)), (6, (vi n2))] [] (zM <| zE (oXa ar80 sh3 (fun _ => rfl) 2) <| zM <| zM <| zZ) ?_
  refine kx [] [(2, some (bx (encA31 (A9.mk (ofZ n0) (ofZ n1) (ofZ n2) (RInt.mk false []) (RInt.mk false []) (RInt.mk false []) (RInt.mk false []) (RInt.mk false []) (RInt.mk false [])))))] (zM <| zM <| zE (oCl (l_wholeI n2 (by omega) (by omega))) <| zE (oXr ar32 2) <| zT (oSt sh30) <| zZ) ?_
  refine pwp_sim (wk (l := [(2, (.ref 1 0)), (4, (.ref 2 0)), (8, (.d (encA80 (A9.mk n0 n1 n2 n3 n4 n5 n6 n7 n8)))), (9, (vin 2))]) (b := [(1, some y1), (2, some (bx (encA31 (A9.mk (ofZ n0) (ofZ n1) (ofZ n2) (RInt.mk false []) (RInt.mk false []) (RInt.mk false []) (RInt.mk false []) (RInt.mk false []) (RInt.mk false [])))))])) ?_
  refine kx [(9, (vin 3))] [] (zE (oAd 3 (hr := by decide)) <| zM <| zZ) ?_
  refine pwp_again (SimImp.refl _) ?_
  refine pwp_seq <| kx [(10, (vb true))] [] (zE (oBk true oLt) <| zZ) ?_
  refine pwp_seq <| pwp_cond (b := true) (by kernel_rfl) (fun _ => ?_) (fun h => by cases h)
  refine pwp_skip <| pwp_seq <| pwp_block <| pwp_seq <| kx [(5, (vin 3)), (6, (vi n3))] [] (zM <| zE (oXa ar80 sh3 (fun _ => rfl) 3) <| zM <| zM <| zZ) ?_
  refine kx [] [(2, some (bx (encA31 (A9.mk (ofZ n0) (ofZ n1) (ofZ n2) (ofZ n3) (RInt.mk false []) (RInt.mk false []) (RInt.mk false []) (RInt.mk false []) (RInt.mk false [])))))] (zM <| zM <| zE (oCl (l_wholeI n3 (by omega) (by omega))) <| zE (oXr ar32 3) <| zT (oSt sh30) <| zZ) ?_
  refine kx [(9, (vin 4))] [] (zE (oAd 4 (hr := by decide)) <| zM <| zZ) ?_
  refine pwp_again (SimImp.refl _) ?_
  refine pwp_seq <| kx [(10, (vb true))] [] (zE (oBk true oLt) <| zZ) ?_
  refine pwp_seq <| pwp_cond (b := true) (by kernel_rfl) (fun _ => ?_) (fun h => by cases h)
  refine pwp_skip <| pwp_seq <| pwp_block <| pwp_seq <| kx [(5, (vin 4)), (6, (vi n4))] [] (zM <| zE (oXa ar80 sh3 (fun _ => rfl) 4) <| zM <| zM <| zZ) ?_
  refine kx [] [(2, some (bx (encA31 (A9.mk (ofZ n0) (ofZ n1) (ofZ n2) (ofZ n3) (ofZ n4) (RInt.mk false []) (RInt.mk false []) (RInt.mk false []) (RInt.mk false [])))))] (zM <| zM <| zE (oCl (l_wholeI n4 (by omega) (by omega))) <| zE (oXr ar32 4) <| zT (oSt sh30) <| zZ) ?_
  refine kx [(9, (vin 5))] [] (zE (oAd 5 (hr := by decide)) <| zM <| zZ) ?_
  refine pwp_again (SimImp.refl _) ?_
  refine pwp_seq <| kx [(10, (vb true))] [] (zE (oBk true oLt) <| zZ) ?_
  refine pwp_seq <| pwp_cond (b := true) (by kernel_rfl) (fun _ => ?_) (fun h => by cases h)
  refine pwp_skip <| pwp_seq <| pwp_block <| pwp_seq <| kx [(5, (vin 5)), (6, (vi n5))] [] (zM <| zE (oXa ar80 sh3 (fun _ => rfl) 5) <| zM <| zM <| zZ) ?_
  refine kx [] [(2, some (bx (encA31 (A9.mk (ofZ n0) (ofZ n1) (ofZ n2) (ofZ n3) (ofZ n4) (ofZ n5) (RInt.mk false []) (RInt.mk false []) (RInt.mk false [])))))] (zM <| zM <| zE (oCl (l_wholeI n5 (by omega) (by omega))) <| zE (oXr ar32 5) <| zT (oSt sh30) <| zZ) ?_
  refine kx [(9, (vin 6))] [] (zE (oAd 6 (hr := by decide)) <| zM <| zZ) ?_
  refine pwp_again (SimImp.refl _) ?_
  refine pwp_seq <| kx [(10, (vb true))] [] (zE (oBk true oLt) <| zZ) ?_
  refine pwp_seq <| pwp_cond (b := true) (by kernel_rfl) (fun _ => ?_) (fun h => by cases h)
  refine pwp_skip <| pwp_seq <| pwp_block <| pwp_seq <| pwp_sim (wk (l := [(2, (.ref 1 0)), (4, (.ref 2 0)), (8, (.d (encA80 (A9.mk n0 n1 n2 n3 n4 n5 n6 n7 n8)))), (9, (vin 6)), (10, (vb true))]) (b := [(1, some y1), (2, some (bx (encA31 (A9.mk (ofZ n0) (ofZ n1) (ofZ n2) (ofZ n3) (ofZ n4) (ofZ n5) (RInt.mk false []) (RInt.mk false []) (RInt.mk false [])))))])) ?_
  refine kx [(5, (vin 6)), (6, (vi n6))] [] (zM <| zE (oXa ar80 sh3 (fun _ => rfl) 6) <| zM <| zM <| zZ) ?_
  refine kx [] [(2, some (bx (encA31 (A9.mk (ofZ n0) (ofZ n1) (ofZ n2) (ofZ n3) (ofZ n4) (ofZ n5) (ofZ n6) (RInt.mk false []) (RInt.mk false [])))))] (zM <| zM <| zE (oCl (l_wholeI n6 (by omega) (by omega))) <| zE (oXr ar32 6) <| zT (oSt sh30) <| zZ) ?_
  refine kx [(9, (vin 7))] [] (zE (oAd 7 (hr := by decide)) <| zM <| zZ) ?_
  refine pwp_again (SimImp.refl _) ?_
  refine pwp_seq <| kx [(10, (vb true))] [] (zE (oBk true oLt) <| zZ) ?_
  refine pwp_seq <| pwp_cond (b := true) (by kernel_rfl) (fun _ => ?_) (fun h => by cases h)
  refine pwp_skip <| pwp_seq <| pwp_block <| pwp_seq <| kx [(5, (vin 7)), (6, (vi n7))] [] (zM <| zE (oXa ar80 sh3 (fun _ => rfl) 7) <| zM <| zM <| zZ) ?_
  refine kx [] [(2, some (bx (encA31 (A9.mk (ofZ n0) (ofZ n1) (ofZ n2) (ofZ n3) (ofZ n4) (ofZ n5) (ofZ n6) (ofZ n7) (RInt.mk false [])))))] (zM <| zM <| zE (oCl (l_wholeI n7 (by omega) (by omega))) <| zE (oXr ar32 7) <| zT (oSt sh30) <| zZ) ?_
  refine kx [(9, (vin 8))] [] (zE (oAd 8 (hr := by decide)) <| zM <| zZ) ?_
  refine pwp_again (SimImp.refl _) ?_
  refine pwp_seq <| kx [(10, (vb true))] [] (zE (oBk true oLt) <| zZ) ?_
  refine pwp_seq <| pwp_cond (b := true) (by kernel_rfl) (fun _ => ?_) (fun h => by cases h)
  refine pwp_skip <| pwp_seq <| pwp_block <| pwp_seq <| kx [(5, (vin 8)), (6, (vi n8))] [] (zM <| zE (oXa ar80 sh3 (fun _ => rfl) 8) <| zM <| zM <| zZ) ?_
  refine kx [] [(2, some (bx (encA31 (A9.mk (ofZ n0) (ofZ n1) (ofZ n2) (ofZ n3) (ofZ n4) (ofZ n5) (ofZ n6) (ofZ n7) (ofZ n8)))))] (zM <| zM <| zE (oCl (l_wholeI n8 (by omega) (by omega))) <| zE (oXr ar32 8) <| zT (oSt sh30) <| zZ) ?_
  refine kx [(9, (vin 9))] [] (zE (oAd 9 (hr := by decide)) <| zM <| zZ) ?_
  refine pwp_again (SimImp.refl _) ?_
  refine pwp_seq <| kx [(10, (vb false))] [] (zE (oBk false oLt) <| zZ) ?_
  refine pwp_seq <| pwp_cond (b := false) (by kernel_rfl) (fun h => by cases h) (fun _ => ?_)
  refine pwp_exit <| pwp_seq ?_
  have bn1 : ∀ c ∈ [c0, c1, c2, c3, c4, c5, c6, c7, c8], IOk (ofZ c) c 3 := red_iok (n := 3) (.cons (iok_int (z := n0) (by omega) (by omega)) (.cons (iok_int (z := n1) (by omega) (by omega)) (.cons (iok_int (z := n2) (by omega) (by omega)) (.cons (iok_int (z := n3) (by omega) (by omega)) (.cons (iok_int (z := n4) (by omega) (by omega)) (.cons (iok_int (z := n5) (by omega) (by omega)) (.cons (iok_int (z := n6) (by omega) (by omega)) (.cons (iok_int (z := n7) (by omega) (by omega)) (.cons (iok_int (z := n8) (by omega) (by omega)) .nil))))))))) hc
  refine kx [(3, (vb true))] [(1, some (bx (encA31 (A9.mk (ofZ c0) (ofZ c1) (ofZ c2) (ofZ c3) (ofZ c4) (ofZ c5) (ofZ c6) (ofZ c7) (ofZ c8)))))] (zR (oLa sh32) <| zE (oCl (l_reduce (A9.mk (ofZ n0) (ofZ n1) (ofZ n2) (ofZ n3) (ofZ n4) (ofZ n5) (ofZ n6) (ofZ n7) (ofZ n8)) n0 n1 n2 n3 n4 n5 n6 n7 n8 (iok_up (iok_int (z := n0) (by omega) (by omega)) (by decide)) (iok_up (iok_int (z := n1) (by omega) (by omega)) (by decide)) (iok_up (iok_int (z := n2) (by omega) (by omega)) (by decide)) (iok_up (iok_int (z := n3) (by omega) (by omega)) (by decide)) (iok_up (iok_int (z := n4) (by omega) (by omega)) (by decide)) (iok_up (iok_int (z := n5) (by omega) (by omega)) (by decide)) (iok_up (iok_int (z := n6) (by omega) (by omega)) (by decide)) (iok_up (iok_int (z := n7) (by omega) (by omega)) (by decide)) (iok_up (iok_int (z := n8) (by omega) (by omega)) (by decide)) c0 c1 c2 c3 c4 c5 c6 c7 c8 hc hnz hd)) <| zE oEx <| zE oEx <| zT (oSt sh32) <| zM <| zZ) ?_
  refine pwp_ret ⟨_, (res_a (cs := (bx (encA31 (A9.mk (ofZ c0) (ofZ c1) (ofZ c2) (ofZ c3) (ofZ c4) (ofZ c5) (ofZ c6) (ofZ c7) (ofZ c8))))) (d := (encA31 (A9.mk (ofZ c0) (ofZ c1) (ofZ c2) (ofZ c3) (ofZ c4) (ofZ c5) (ofZ c6) (ofZ c7) (ofZ c8)))) rfl rfl sh32 rfl rfl (.tmp (d := (.val (.bool (true)))) rfl .nil)), ?_⟩
  rfl
theorem l_Reduced (a : Int) (hal : -1048576 ≤ a) (hah : a ≤ 1048576) (b : Int) (hbl : -1048576 ≤ b) (hbh : b ≤ 1048576) (d : Int) (hdl : -1048576 ≤ d) (hdh : d ≤ 1048576) (c0 c1 c2 : Int) (hc : redL [a, b, d] = [c0, c1, c2]) (hnz : sgnL [a, b, d] ≠ 0) : Takes Tryz.prog 63 [(.val (.int .i64 (a))), (.val (.int .i64 (b))), (.val (.int .i64 (d)))] (.tup [(encA43 (A3.mk (ofZ c0) (ofZ c1) (ofZ c2))), (.val (.bool (true)))]) := by
  refine fn_intro Tryz.func63 rfl cb63 rfl ?_
  show PWp _ _ _ _ ⟨[(0, (vi a)), (1, (vi b)), (2, (vi d))], []⟩
  refine pwp_seq <| kx [(6, (.ref 0 0))] [(0, some (bx (encA43 (A3.mk (RInt.mk false []) (RInt.mk false []) (RInt.mk false [])))))] (zN (oAl 0 ze44 zo44) <| zM <| zZ) ?_
  refine pwp_seq ?_
  have bn1 : ∀ c ∈ [c0, c1, c2], IOk (ofZ c) c 3 := red_iok (n := 3) (.cons (iok_int (z := a) (by omega) (by omega)) (.cons (iok_int (z := b) (by omega) (by omega)) (.cons (iok_int (z := d) (by omega) (by omega)) .nil))) hc
  refine kx [(7, (vb true))] [(0, some (bx (encA43 (A3.mk (ofZ c0) (ofZ c1) (ofZ c2)))))] (zM <| zE (oCl (l_wholeI a (by omega) (by omega))) <| zM <| zE (oCl (l_wholeI b (by omega) (by omega))) <| zM <| zE (oCl (l_wholeI d (by omega) (by omega))) <| zE (oBf ar44 ze44 zo44) <| zE (oCl (l_trip (A3.mk (ofZ a) (ofZ b) (ofZ d)) a b d (iok_up (iok_int (z := a) (by omega) (by omega)) (by decide)) (iok_up (iok_int (z := b) (by omega) (by omega)) (by decide)) (iok_up (iok_int (z := d) (by omega) (by omega)) (by decide)) c0 c1 c2 hc hnz)) <| zE oEx <| zE oEx <| zT (oSt sh44) <| zM <| zZ) ?_
  refine pwp_ret ⟨_, (res_a (cs := (bx (encA43 (A3.mk (ofZ c0) (ofZ c1) (ofZ c2))))) (d := (encA43 (A3.mk (ofZ c0) (ofZ c1) (ofZ c2)))) rfl rfl sh44 rfl rfl (.tmp (d := (.val (.bool (true)))) rfl .nil)), ?_⟩
  rfl
set_option maxHeartbeats 4000000 in
theorem l_known27  : Takes Tryz.prog 11 [] (.val (.bool (true))) := by
  let y1 := (A9.mk (ofZ 4) (ofZ 0) (ofZ 0) (ofZ 0) (ofZ 4) (ofZ 0) (ofZ (-1)) (ofZ (-1)) (ofZ 3))
  refine fn_intro Tryz.func11 rfl cb11 rfl ?_
  show PWp _ _ _ _ ⟨[], []⟩
  refine pwp_seq <| kx [] [] (zM <| zZ) ?_
  refine pwp_seq <| kx [(1, (.ref 0 0))] [(0, some (bx (encA31 (A9.mk (ofZ 1) (ofZ 0) (ofZ 32) (ofZ 0) (ofZ 1) (ofZ 0) (ofZ 0) (ofZ 0) (ofZ 1)))))] (zE (oBf ar80 ze80 zo80) <| zE (oCl (l_made ((1 : Nat) : Int) ((0 : Nat) : Int) ((32 : Nat) : Int) ((0 : Nat) : Int) ((1 : Nat) : Int) ((0 : Nat) : Int) ((0 : Nat) : Int) ((0 : Nat) : Int) ((1 : Nat) : Int) (by omega) (by omega) (by omega) (by omega) (by omega) (by omega) (by omega) (by omega) (by omega) 1 0 32 0 1 0 0 0 1 (by decide +kernel) (by decide +kernel) (by decide +kernel))) <| zM <| zE oEx <| zE oEx <| zN (oAl 0 ze32 zo32) <| zT (oSt sh32) <| zM <| zZ) ?_
  refine pwp_seq <| kx [(3, (.ref 1 0))] [(1, some (bx (encA43 (A3.mk (ofZ 1) (ofZ 2) (ofZ 1)))))] (zE (oCl (l_Reduced ((1 : Nat) : Int) (by omega) (by omega) ((2 : Nat) : Int) (by omega) (by omega) ((1 : Nat) : Int) (by omega) (by omega) 1 2 1 (by decide +kernel) (by decide +kernel))) <| zM <| zE oEx <| zE oEx <| zN (oAl 1 ze44 zo44) <| zT (oSt sh44) <| zM <| zZ) ?_
  refine pwp_seq <| kx [(5, (.ref 2 0))] [(2, some (bx (encA43 (A3.mk (ofZ 33) (ofZ 2) (ofZ 1)))))] (zE (oCl (l_Reduced ((33 : Nat) : Int) (by omega) (by omega) ((2 : Nat) : Int) (by omega) (by omega) ((1 : Nat) : Int) (by omega) (by omega) 33 2 1 (by decide +kernel) (by decide +kernel))) <| zM <| zE oEx <| zE oEx <| zN (oAl 2 ze44 zo44) <| zT (oSt sh44) <| zM <| zZ) ?_
  refine pwp_seq <| kx [(7, (.ref 3 0)), (8, (vi 0))] [(3, some (bx (encA43 (A3.mk (ofZ 33) (ofZ 2) (ofZ 1)))))] (zR (oLa sh32) <| zR (oLa sh44) <| zE (oCl (d_apply (A9.mk (ofZ 1) (ofZ 0) (ofZ 32) (ofZ 0) (ofZ 1) (ofZ 0) (ofZ 0) (ofZ 0) (ofZ 1)) 1 0 32 0 1 0 0 0 1 (iok_up (iok_small (z := 1) (by decide)) (by decide)) (iok_up (iok_small (z := 0) (by decide)) (by decide)) (iok_up (iok_small (z := 32) (by decide)) (by decide)) (iok_up (iok_small (z := 0) (by decide)) (by decide)) (iok_up (iok_small (z := 1) (by decide)) (by decide)) (iok_up (iok_small (z := 0) (by decide)) (by decide)) (iok_up (iok_small (z := 0) (by decide)) (by decide)) (iok_up (iok_small (z := 0) (by decide)) (by decide)) (iok_up (iok_small (z := 1) (by decide)) (by decide)) (A3.mk (ofZ 1) (ofZ 2) (ofZ 1)) 1 2 1 (iok_up (iok_small (z := 1) (by decide)) (by decide)) (iok_up (iok_small (z := 2) (by decide)) (by decide)) (iok_up (iok_small (z := 1) (by decide)) (by decide)) 33 2 1 (by decide +kernel) (valH_closed [1, 0, 32, 0, 1, 0, 0, 0, 1] _ (by decide +kernel)) (redB_closed [1, 2, 1] (by decide +kernel)) (by decide +kernel))) <| zM <| zE oEx <| zE oEx <| zN (oAl 3 ze44 zo44) <| zT (oSt sh44) <| zM <| zZ) ?_
  refine pwp_seq <| kx [(9, (.ref 4 0)), (10, (vi 0))] [(4, some (bx (encA31 y1)))] (zE (oBd pl25 ze25 zo25) <| zE (oBd pl23 ze23 zo23) <| zE (oBd pl23 ze23 zo23) <| zE (oBd pl25 ze25 zo25) <| zE (oBd pl23 ze23 zo23) <| zE (oBd pl23 ze23 zo23) <| zE (oBd pl25 ze25 zo25) <| zE (oBd pl23 ze23 zo23) <| zE (oBd pl23 ze23 zo23) <| zE (oBd pl25 ze25 zo25) <| zE (oBf ar26 ze26 zo26) <| zE (oCl (d_four 0 0 0 0 ((1 : Nat) : Int) 0 ((2 : Nat) : Int) 0 0 ((1 : Nat) : Int) 0 ((2 : Nat) : Int) ((1 : Nat) : Int) ((1 : Nat) : Int) ((4 : Nat) : Int) ((4 : Nat) : Int) (by omega) (by omega) (by omega) (by omega) (by omega) (by omega) (by omega) (by omega) (by omega) (by omega) (by omega) (by omega) (by omega) (by omega) (by omega) (by omega) (-1) (by decide +kernel) 1 (by decide +kernel) 1 (by decide +kernel) 1 (by decide +kernel) (-12) (by decide +kernel) 8 (by decide +kernel) 8 (by decide +kernel) 4 (by decide +kernel) 0 (by decide +kernel) 1 (by decide +kernel) 0 (by decide +kernel) 0 (by decide +kernel) 0 (by decide +kernel) 1 (by decide +kernel) (-1) (by decide +kernel) 1 (by decide +kernel) 1 (by decide +kernel) 0 (by decide +kernel) 16 (by decide +kernel) 0 (by decide +kernel) 0 (by decide +kernel) 0 (by decide +kernel) 16 (by decide +kernel) (-12) (by decide +kernel) 8 (by decide +kernel) 8 (by decide +kernel) 4 0 0 0 4 0 (-1) (-1) 3 (by decide +kernel) (by decide +kernel) (by decide +kernel) (by decide +kernel) (by decide +kernel) (by decide +kernel) (by decide +kernel) (by decide +kernel) (by decide +kernel) (by decide +kernel))) <| zM <| zE oEx <| zE oEx <| zN (oAl 4 ze32 zo32) <| zT (oSt sh32) <| zM <| zZ) ?_
  refine pwp_seq <| kx [(11, (.ref 5 0))] [(5, some (bx (encA31 y1)))] (zE (oBf ar80 ze80 zo80) <| zE (oCl (l_made ((4 : Nat) : Int) ((0 : Nat) : Int) ((0 : Nat) : Int) ((0 : Nat) : Int) ((4 : Nat) : Int) ((0 : Nat) : Int) (-1) (-1) ((3 : Nat) : Int) (by omega) (by omega) (by omega) (by omega) (by omega) (by omega) (by omega) (by omega) (by omega) 4 0 0 0 4 0 (-1) (-1) 3 (by decide +kernel) (by decide +kernel) (by decide +kernel))) <| zM <| zE oEx <| zE oEx <| zN (oAl 5 ze32 zo32) <| zT (oSt sh32) <| zM <| zZ) ?_
  refine pwp_seq <| kx [(0, (vb true))] [] (zM <| zE oEq <| zM <| zM <| zE oEq <| zE oPt <| zM <| zR (oLa sh44) <| zR (oLa sh44) <| zE (oCl (l_sameT3 (A3.mk (ofZ 33) (ofZ 2) (ofZ 1)) 33 2 1 (iok_up (iok_small (z := 33) (by decide)) (by decide)) (iok_up (iok_small (z := 2) (by decide)) (by decide)) (iok_up (iok_small (z := 1) (by decide)) (by decide)) (A3.mk (ofZ 33) (ofZ 2) (ofZ 1)) 33 2 1 (iok_up (iok_small (z := 33) (by decide)) (by decide)) (iok_up (iok_small (z := 2) (by decide)) (by decide)) (iok_up (iok_small (z := 1) (by decide)) (by decide)) (validI_ofZ _) (validI_ofZ _) (validI_ofZ _) (sameI_self _) (sameI_self _) (sameI_self _))) <| zE oPt <| zM <| zR (oLa sh32) <| zR (oLa sh32) <| zE (oCl (l_sameT9 y1 4 0 0 0 4 0 (-1) (-1) 3 (iok_up (iok_small (z := 4) (by decide)) (by decide)) (iok_up (iok_small (z := 0) (by decide)) (by decide)) (iok_up (iok_small (z := 0) (by decide)) (by decide)) (iok_up (iok_small (z := 0) (by decide)) (by decide)) (iok_up (iok_small (z := 4) (by decide)) (by decide)) (iok_up (iok_small (z := 0) (by decide)) (by decide)) (iok_up (iok_small (z := (-1)) (by decide)) (by decide)) (iok_up (iok_small (z := (-1)) (by decide)) (by decide)) (iok_up (iok_small (z := 3) (by decide)) (by decide)) y1 4 0 0 0 4 0 (-1) (-1) 3 (iok_up (iok_small (z := 4) (by decide)) (by decide)) (iok_up (iok_small (z := 0) (by decide)) (by decide)) (iok_up (iok_small (z := 0) (by decide)) (by decide)) (iok_up (iok_small (z := 0) (by decide)) (by decide)) (iok_up (iok_small (z := 4) (by decide)) (by decide)) (iok_up (iok_small (z := 0) (by decide)) (by decide)) (iok_up (iok_small (z := (-1)) (by decide)) (by decide)) (iok_up (iok_small (z := (-1)) (by decide)) (by decide)) (iok_up (iok_small (z := 3) (by decide)) (by decide)) (validI_ofZ _) (validI_ofZ _) (validI_ofZ _) (validI_ofZ _) (validI_ofZ _) (validI_ofZ _) (validI_ofZ _) (validI_ofZ _) (validI_ofZ _) (sameI_self _) (sameI_self _) (sameI_self _) (sameI_self _) (sameI_self _) (sameI_self _) (sameI_self _) (sameI_self _) (sameI_self _))) <| zE oPt <| zM <| zR (oLa sh32) <| zE (oBk true (oCl (d_valid (A9.mk (ofZ 1) (ofZ 0) (ofZ 32) (ofZ 0) (ofZ 1) (ofZ 0) (ofZ 0) (ofZ 0) (ofZ 1)) 1 0 32 0 1 0 0 0 1 (iok_up (iok_small (z := 1) (by decide)) (by decide)) (iok_up (iok_small (z := 0) (by decide)) (by decide)) (iok_up (iok_small (z := 32) (by decide)) (by decide)) (iok_up (iok_small (z := 0) (by decide)) (by decide)) (iok_up (iok_small (z := 1) (by decide)) (by decide)) (iok_up (iok_small (z := 0) (by decide)) (by decide)) (iok_up (iok_small (z := 0) (by decide)) (by decide)) (iok_up (iok_small (z := 0) (by decide)) (by decide)) (iok_up (iok_small (z := 1) (by decide)) (by decide)))) (by exact (valH_closed [1, 0, 32, 0, 1, 0, 0, 0, 1] _ (by decide +kernel)))) <| zE oPt <| zM <| zE (oBa ar44 ze44 zo44) <| zE (oBk false (oCl (d_proper (A3.mk (RInt.mk false []) (RInt.mk false []) (RInt.mk false [])) 0 0 0 (iu iok_zero) (iu iok_zero) (iu iok_zero))) (by exact (by decide +kernel))) <| zE oNt <| zE oPt <| zM <| zZ) ?_
  refine pwp_ret ⟨_, (.tmp (d := (.val (.bool (true)))) rfl .nil), ?_⟩
  rfl
theorem l_briefT02 (p : A3 RInt) (p0 p1 p2 : Int) (hp0 : IOk p.a0 p0 140737488355328) (hp1 : IOk p.a1 p1 140737488355328) (hp2 : IOk p.a2 p2 140737488355328) (q : A3 RInt) (q0 q1 q2 : Int) (hq0 : IOk q.a0 q0 140737488355328) (hq1 : IOk q.a1 q1 140737488355328) (hq2 : IOk q.a2 q2 140737488355328) (hb0 : List.all [p.a0, p.a1, p.a2] short4 = true) (hb1 : List.all [q.a0, q.a1, q.a2] short4 = true) : Takes Tryz.prog 19 [(.sl 32 18 (List.map encA31 [])), (.sl 44 6 (List.map encA43 [p, q]))] (.val (.bool (true))) := by
  refine fn_intro Tryz.func19 rfl cb19 rfl ?_
  show PWp _ _ _ _ ⟨[(0, (vl 32 18 encA31 [])), (1, (vl 44 6 encA43 [p, q]))], []⟩
  refine pwp_seq <| kx [] [] (zM <| zZ) ?_
  refine pwp_seq <| pwp_seq <| kx [(9, (vl 32 18 encA31 [])), (10, (vin 0)), (11, (vin 0))] [] (zM <| zE (oLn el49 0) <| zM <| zZ) ?_
  refine pwp_block <| pwp_rounds 20 ?_
  refine pwp_round <| pwp_seq <| kx [(12, (vb false))] [] (zE (oBk false oLt) <| zZ) ?_
  refine pwp_seq <| pwp_cond (b := false) (by kernel_rfl) (fun h => by cases h) (fun _ => ?_)
  refine pwp_exit <| pwp_seq <| pwp_seq <| kx [(19, (vl 44 6 encA43 [p, q])), (20, (vin 2)), (21, (vin 0))] [] (zM <| zE (oLn el65 2) <| zM <| zZ) ?_
  refine pwp_block <| pwp_rounds 20 ?_
  refine pwp_round <| pwp_seq <| kx [(22, (vb true))] [] (zE (oBk true oLt) <| zZ) ?_
  refine pwp_seq <| pwp_cond (b := true) (by kernel_rfl) (fun _ => ?_) (fun h => by cases h)
  refine pwp_skip <| pwp_seq <| pwp_block <| pwp_seq <| kx [(8, (.ref 0 0))] [(0, some (bx (encA43 p)))] (zE (oXs el65 0) <| zE (oCa sh44) <| zN (oAl 0 ze44 zo44) <| zT (oSt sh44) <| zZ) ?_
  refine pwp_seq <| kx [(27, (vb false))] [] (zE (e_slv (by exact rfl) ar44 (by exact rfl) (by kernel_rfl) (by kernel_rfl)) <| zR ⟨(bx (encA43 p)), e_clv (es := List.map encI [p.a0, p.a1, p.a2]) (l_short4 1000000 [p.a0, p.a1, p.a2] [p0, p1, p2] (.cons hp0 (.cons hp1 (.cons hp2 .nil))) (Nat.le_of_ble_eq_true rfl)) (by exact rfl) (by kernel_rfl) (by exact rfl) (.v .nil) (pubs_cells _ _ (fun _ => rfl)) (by kernel_rfl) (by kernel_rfl) (.val _), by kernel_rfl⟩ <| zE (oBk false oNt (by exact congrArg (!·) hb0)) <| zZ) ?_
  refine pwp_cond (b := false) (by kernel_rfl) (fun h => by cases h) (fun _ => ?_)
  refine pwp_skip <| kx [(21, (vin 1))] [] (zE (oAd 1 (hr := by decide)) <| zM <| zZ) ?_
  refine pwp_again (SimImp.refl _) ?_
  refine pwp_seq <| kx [(22, (vb true))] [] (zE (oBk true oLt) <| zZ) ?_
  refine pwp_seq <| pwp_cond (b := true) (by kernel_rfl) (fun _ => ?_) (fun h => by cases h)
  refine pwp_skip <| pwp_seq <| pwp_block <| pwp_seq <| kx [(8, (.ref 1 0))] [(1, some (bx (encA43 q)))] (zE (oXs el65 1) <| zE (oCa sh44) <| zN (oAl 1 ze44 zo44) <| zT (oSt sh44) <| zZ) ?_
  refine pwp_seq <| kx [(27, (vb false))] [] (zE (e_slv (by exact rfl) ar44 (by exact rfl) (by kernel_rfl) (by kernel_rfl)) <| zR ⟨(bx (encA43 q)), e_clv (es := List.map encI [q.a0, q.a1, q.a2]) (l_short4 1000000 [q.a0, q.a1, q.a2] [q0, q1, q2] (.cons hq0 (.cons hq1 (.cons hq2 .nil))) (Nat.le_of_ble_eq_true rfl)) (by exact rfl) (by kernel_rfl) (by exact rfl) (.v .nil) (pubs_cells _ _ (fun _ => rfl)) (by kernel_rfl) (by kernel_rfl) (.val _), by kernel_rfl⟩ <| zE (oBk false oNt (by exact congrArg (!·) hb1)) <| zZ) ?_
  refine pwp_cond (b := false) (by kernel_rfl) (fun h => by cases h) (fun _ => ?_)
  refine pwp_skip <| kx [(21, (vin 2))] [] (zE (oAd 2 (hr := by decide)) <| zM <| zZ) ?_
  refine pwp_again (SimImp.refl _) ?_
  refine pwp_seq <| kx [(22, (vb false))] [] (zE (oBk false oLt) <| zZ) ?_
  refine pwp_seq <| pwp_cond (b := false) (by kernel_rfl) (fun h => by cases h) (fun _ => ?_)
  refine pwp_exit <| pwp_seq <| kx [(4, (vb true))] [] (zM <| zZ) ?_
  refine pwp_ret ⟨_, (.tmp (d := (.val (.bool (true)))) rfl .nil), ?_⟩
  rfl
theorem l_briefF02_0 (p : A3 RInt) (p0 p1 p2 : Int) (hp0 : IOk p.a0 p0 140737488355328) (hp1 : IOk p.a1 p1 140737488355328) (hp2 : IOk p.a2 p2 140737488355328) (q : A3 RInt) (q0 q1 q2 : Int) (hq0 : IOk q.a0 q0 140737488355328) (hq1 : IOk q.a1 q1 140737488355328) (hq2 : IOk q.a2 q2 140737488355328) (hbx : List.all [p.a0, p.a1, p.a2] short4 = false) : Takes Tryz.prog 19 [(.sl 32 18 (List.map encA31 [])), (.sl 44 6 (List.map encA43 [p, q]))] (.val (.bool (false))) := by
  refine fn_intro Tryz.func19 rfl cb19 rfl ?_
  show PWp _ _ _ _ ⟨[(0, (vl 32 18 encA31 [])), (1, (vl 44 6 encA43 [p, q]))], []⟩
  refine pwp_seq <| kx [] [] (zM <| zZ) ?_
  refine pwp_seq <| pwp_seq <| kx [(9, (vl 32 18 encA31 [])), (10, (vin 0)), (11, (vin 0))] [] (zM <| zE (oLn el49 0) <| zM <| zZ) ?_
  refine pwp_block <| pwp_rounds 20 ?_
  refine pwp_round <| pwp_seq <| kx [(12, (vb false))] [] (zE (oBk false oLt) <| zZ) ?_
  refine pwp_seq <| pwp_cond (b := false) (by kernel_rfl) (fun h => by cases h) (fun _ => ?_)
  refine pwp_exit <| pwp_seq <| pwp_seq <| kx [(19, (vl 44 6 encA43 [p, q])), (20, (vin 2)), (21, (vin 0))] [] (zM <| zE (oLn el65 2) <| zM <| zZ) ?_
  refine pwp_block <| pwp_rounds 20 ?_
  refine pwp_round <| pwp_seq <| kx [(22, (vb true))] [] (zE (oBk true oLt) <| zZ) ?_
  refine pwp_seq <| pwp_cond (b := true) (by kernel_rfl) (fun _ => ?_) (fun h => by cases h)
  refine pwp_skip <| pwp_seq <| pwp_block <| pwp_seq <| kx [(8, (.ref 0 0))] [(0, some (bx (encA43 p)))] (zE (oXs el65 0) <| zE (oCa sh44) <| zN (oAl 0 ze44 zo44) <| zT (oSt sh44) <| zZ) ?_
  refine pwp_seq <| kx [(27, (vb true))] [] (zE (e_slv (by exact rfl) ar44 (by exact rfl) (by kernel_rfl) (by kernel_rfl)) <| zR ⟨(bx (encA43 p)), e_clv (es := List.map encI [p.a0, p.a1, p.a2]) (l_short4 1000000 [p.a0, p.a1, p.a2] [p0, p1, p2] (.cons hp0 (.cons hp1 (.cons hp2 .nil))) (Nat.le_of_ble_eq_true rfl)) (by exact rfl) (by kernel_rfl) (by exact rfl) (.v .nil) (pubs_cells _ _ (fun _ => rfl)) (by kernel_rfl) (by kernel_rfl) (.val _), by kernel_rfl⟩ <| zE (oBk true oNt (by exact congrArg (!·) hbx)) <| zZ) ?_
  refine pwp_cond (b := true) (by kernel_rfl) (fun _ => ?_) (fun h => by cases h)
  refine pwp_seq <| kx [(4, (vb false))] [] (zM <| zZ) ?_
  refine pwp_ret ⟨_, (.tmp (d := (.val (.bool (false)))) rfl .nil), ?_⟩
  rfl
theorem l_briefF02_1 (p : A3 RInt) (p0 p1 p2 : Int) (hp0 : IOk p.a0 p0 140737488355328) (hp1 : IOk p.a1 p1 140737488355328) (hp2 : IOk p.a2 p2 140737488355328) (q : A3 RInt) (q0 q1 q2 : Int) (hq0 : IOk q.a0 q0 140737488355328) (hq1 : IOk q.a1 q1 140737488355328) (hq2 : IOk q.a2 q2 140737488355328) (hb0 : List.all [p.a0, p.a1, p.a2] short4 = true) (hbx : List.all [q.a0, q.a1, q.a2] short4 = false) : Takes Tryz.prog 19 [(.sl 32 18 (List.map encA31 [])), (.sl 44 6 (List.map encA43 [p, q]))] (.val (.bool (false))) := by
  refine fn_intro Tryz.func19 rfl cb19 rfl ?_
  show PWp _ _ _ _ ⟨[(0, (vl 32 18 encA31 [])), (1, (vl 44 6 encA43 [p, q]))], []⟩
  refine pwp_seq <| kx [] [] (zM <| zZ) ?_
  refine pwp_seq <| pwp_seq <| kx [(9, (vl 32 18 encA31 [])), (10, (vin 0)), (11, (vin 0))] [] (zM <| zE (oLn el49 0) <| zM <| zZ) ?_
  refine pwp_block <| pwp_rounds 20 ?_
  refine pwp_round <| pwp_seq <| kx [(12, (vb false))] [] (zE (oBk false oLt) <| zZ) ?_
  refine pwp_seq <| pwp_cond (b := false) (by kernel_rfl) (fun h => by cases h) (fun _ => ?_)
  refine pwp_exit <| pwp_seq <| pwp_seq <| kx [(19, (vl 44 6 encA43 [p, q])), (20, (vin 2)), (21, (vin 0))] [] (zM <| zE (oLn el65 2) <| zM <| zZ) ?_
  refine pwp_block <| pwp_rounds 20 ?_
  refine pwp_round <| pwp_seq <| kx [(22, (vb true))] [] (zE (oBk true oLt) <| zZ) ?_
  refine pwp_seq <| pwp_cond (b := true) (by kernel_rfl) (fun _ => ?_) (fun h => by cases h)
  refine pwp_skip <| pwp_seq <| pwp_block <| pwp_seq <| kx [(8, (.ref 0 0))] [(0, some (bx (encA43 p)))] (zE (oXs el65 0) <| zE (oCa sh44) <| zN (oAl 0 ze44 zo44) <| zT (oSt sh44) <| zZ) ?_
  refine pwp_seq <| kx [(27, (vb false))] [] (zE (e_slv (by exact rfl) ar44 (by exact rfl) (by kernel_rfl) (by kernel_rfl)) <| zR ⟨(bx (encA43 p)), e_clv (es := List.map encI [p.a0, p.a1, p.a2]) (l_short4 1000000 [p.a0, p.a1, p.a2] [p0, p1, p2] (.cons hp0 (.cons hp1 (.cons hp2 .nil))) (Nat.le_of_ble_eq_true rfl)) (by exact rfl) (by kernel_rfl) (by exact rfl) (.v .nil) (pubs_cells _ _ (fun _ => rfl)) (by kernel_rfl) (by kernel_rfl) (.val _), by kernel_rfl⟩ <| zE (oBk false oNt (by exact congrArg (!·) hb0)) <| zZ) ?_
  refine pwp_cond (b := false) (by kernel_rfl) (fun h => by cases h) (fun _ => ?_)
  refine pwp_skip <| kx [(21, (vin 1))] [] (zE (oAd 1 (hr := by decide)) <| zM <| zZ) ?_
  refine pwp_again (SimImp.refl _) ?_
  refine pwp_seq <| kx [(22, (vb true))] [] (zE (oBk true oLt) <| zZ) ?_
  refine pwp_seq <| pwp_cond (b := true) (by kernel_rfl) (fun _ => ?_) (fun h => by cases h)
  refine pwp_skip <| pwp_seq <| pwp_block <| pwp_seq <| kx [(8, (.ref 1 0))] [(1, some (bx (encA43 q)))] (zE (oXs el65 1) <| zE (oCa sh44) <| zN (oAl 1 ze44 zo44) <| zT (oSt sh44) <| zZ) ?_
  refine pwp_seq <| kx [(27, (vb true))] [] (zE (e_slv (by exact rfl) ar44 (by exact rfl) (by kernel_rfl) (by kernel_rfl)) <| zR ⟨(bx (encA43 q)), e_clv (es := List.map encI [q.a0, q.a1, q.a2]) (l_short4 1000000 [q.a0, q.a1, q.a2] [q0, q1, q2] (.cons hq0 (.cons hq1 (.cons hq2 .nil))) (Nat.le_of_ble_eq_true rfl)) (by exact rfl) (by kernel_rfl) (by exact rfl) (.v .nil) (pubs_cells _ _ (fun _ => rfl)) (by kernel_rfl) (by kernel_rfl) (.val _), by kernel_rfl⟩ <| zE (oBk true oNt (by exact congrArg (!·) hbx)) <| zZ) ?_
  refine pwp_cond (b := true) (by kernel_rfl) (fun _ => ?_) (fun h => by cases h)
  refine pwp_seq <| kx [(4, (vb false))] [] (zM <| zZ) ?_
  refine pwp_ret ⟨_, (.tmp (d := (.val (.bool (false)))) rfl .nil), ?_⟩
  rfl
end Go.Proofs.YtadkkhdnccljcaaGreat
namespace Go.Proofs.YtadkkhdnccljcaaGreat
open Go.Fid
set_option maxRecDepth 4000
set_option linter.unusedVariables false
set_option linter.unusedSimpArgs false
end Go.Proofs.YtadkkhdnccljcaaGreat
set_option linter.unusedVariables false
set_option linter.unusedSimpArgs false
namespace Go.Fid
theorem mul_zero_of {d z : Int} (hd : d ≠ 0) (h : d * z = 0) : z = 0 := by
  rcases Int.mul_eq_zero.1 h with h | h
  · exact absurd h hd
  · exact h
theorem short4_len {x : RInt} (h : short4 x = true) : x.gs.length ≤ 4 := of_decide_eq_true h
theorem iok_short {x : RInt} (h : short4 x = true) : IOk x (toZ x) 4 := iok_raw (short4_len h)
theorem red3_back {z0 z1 z2 c0 c1 c2 : Int} (hnz : sgnL [z0, z1, z2] ≠ 0) (hc : redL [z0, z1, z2] = [c0, c1, c2]) : ∃ d : Int, d ≠ 0 ∧ z0 = d * c0 ∧ z1 = d * c1 ∧ z2 = d * c2 ∧ sgnL [c0, c1, c2] ≠ 0 ∧ dvL [c0, c1, c2] = 1 := by
  refine ⟨dvL [z0, z1, z2], dvL_ne hnz, ?_⟩
  have h1 := redL_back hnz
  rw [hc] at h1
  simp only [List.map_cons, List.map_nil, List.cons.injEq, and_true] at h1
  exact ⟨h1.1.symm, h1.2.1.symm, h1.2.2.symm, hc ▸ redL_ne hnz, hc ▸ dvL_red hnz⟩
theorem red3_redB {c0 c1 c2 : Int} (h : sgnL [c0, c1, c2] ≠ 0) (hd : dvL [c0, c1, c2] = 1) : redB [ofZ c0, ofZ c1, ofZ c2] = true := redB_closed [c0, c1, c2] ⟨h, hd⟩
theorem iok_ex {x : RInt} (h : short4 x = true) : ∃ z, toZ x = z ∧ IOk x z 4 := ⟨_, rfl, iok_short h⟩
end Go.Fid
set_option linter.unusedVariables false
set_option linter.unusedSimpArgs false
namespace Go.Fid
end Go.Fid
set_option linter.unusedVariables false
set_option linter.unusedSimpArgs false
namespace Go.Fid
theorem den_pos (u : Rat) : ((u.den : Nat) : Int) ≠ 0 := by have := u.den_pos; omega
theorem point_nz (u v : Rat) : sgnL [u.num * (v.den : Int), v.num * (u.den : Int), (u.den : Int) * (v.den : Int)] ≠ 0 :=
  sgnL_of (z := (u.den : Int) * (v.den : Int)) (by simp) (Int.mul_ne_zero (den_pos u) (den_pos v))
theorem divInt_scale {d a b : Int} (hd : d ≠ 0) (hb : b ≠ 0) : Rat.divInt (d * a) (d * b) = Rat.divInt a b := Rat.divInt_mul_left hd
theorem point_back {u v : Rat} {t0 t1 t2 : Int} (h : redL [u.num * (v.den : Int), v.num * (u.den : Int), (u.den : Int) * (v.den : Int)] = [t0, t1, t2]) :
    redB [ofZ t0, ofZ t1, ofZ t2] = true ∧ t2 ≠ 0 ∧ Rat.divInt t0 t2 = u ∧ Rat.divInt t1 t2 = v := by
  obtain ⟨d, hd, e0, e1, e2, hs, h1⟩ := red3_back (point_nz u v) h
  have h2 : t2 ≠ 0 := fun e => by
    rw [e, Int.mul_zero] at e2
    exact Int.mul_ne_zero (den_pos u) (den_pos v) e2
  refine ⟨red3_redB hs h1, h2, ?_, ?_⟩
  · rw [← divInt_scale hd h2, ← e0, ← e2, Int.mul_comm u.num, Int.mul_comm (u.den : Int), Rat.divInt_mul_left (den_pos v), Rat.num_divInt_den]
  · rw [← divInt_scale hd h2, ← e1, ← e2, Int.mul_comm v.num, Rat.divInt_mul_left (den_pos u), Rat.num_divInt_den]
theorem join_on {p0 p1 p2 q0 q1 q2 l0 l1 l2 : Int} (hz : sgnL [p1 * q2 - p2 * q1, p2 * q0 - p0 * q2, p0 * q1 - p1 * q0] ≠ 0) (h : redL [p1 * q2 - p2 * q1, p2 * q0 - p0 * q2, p0 * q1 - p1 * q0] = [l0, l1, l2]) :
    signI (l0 * p0 + l1 * p1 + l2 * p2) = 0 ∧ signI (l0 * q0 + l1 * q1 + l2 * q2) = 0 := by
  obtain ⟨d, hd, e0, e1, e2, _, _⟩ := red3_back hz h
  have k : ∀ a b c : Int, d * (l0 * a + l1 * b + l2 * c) = (p1 * q2 - p2 * q1) * a + (p2 * q0 - p0 * q2) * b + (p0 * q1 - p1 * q0) * c := fun a b c => by
    rw [e0, e1, e2]; grind
  constructor
  · rw [mul_zero_of hd (show d * (l0 * p0 + l1 * p1 + l2 * p2) = 0 by rw [k]; grind)]; rfl
  · rw [mul_zero_of hd (show d * (l0 * q0 + l1 * q1 + l2 * q2) = 0 by rw [k]; grind)]; rfl
end Go.Fid
