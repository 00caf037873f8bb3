/- Part 27 of a proof: rules, plain facts, and functions walked. -/
import Derived.Test.YtihgdjljnaekmaaGreatM26
namespace Go.Proofs.YtihgdjljnaekmaaGreat
open Go.Fid
set_option maxRecDepth 4000
set_option linter.unusedVariables false
set_option linter.unusedSimpArgs false
theorem by3 : bytesB Tryz.prog 3 = some 8 := by kernel_rfl
theorem cb161 : callB Tryz.prog 161 = true := by kernel_rfl
theorem cb185 : callB Tryz.prog 185 = true := by kernel_rfl
theorem el192 : elemB Tryz.prog 192 = some (49, 2) := by kernel_rfl
theorem l8_small (z : Int) (hz : IOk (ofZ z) z 10000001) : Takes Tryz.prog 185 [(encI (ofZ z))] (.tup [(.val (.int .i64 ((smallI z)))), (.val (.bool ((fits64 z))))]) := by
  have hzl := hz.l
  have hln : (ofNat z.natAbs).length ≤ 10000001 := hz.ln
  refine fn_intro Tryz.func185 rfl cb185 rfl ?_
  show PWp _ _ _ _ ⟨[(0, (.d (encI (ofZ z))))], []⟩
  refine pwp_seq <| kx [(1, (.ref 0 0))] [(0, some (bx (encI (ofZ z))))] (zN (oBx 0) <| zM <| zM <| zZ) ?_
  refine pwp_seq <| kx [] [(0, some (bx (encI (ofZ z))))] (zR (oLa sh49) <| zE (oQd (encI (ofZ (toZ (ofZ z)))) (encI (ofZ z)) (oCl (r_value (ofZ z) (by omega))) (by exact (by rw [toZ_ofZ]))) <| zT (oSt sh49) <| zZ) ?_
  refine pwp_seq <| kx [(4, (.ref 1 0)), (5, (.ref 2 0))] [(1, some (bx (encI (ofZ (-9223372036854775808))))), (2, some (bx (encI (ofZ 9223372036854775807))))] (zE (oCl (r_of (-9223372036854775808) (by omega) (by omega))) <| zE (oCl (r_of 9223372036854775807 (by omega) (by omega))) <| zN (oAl 1 ze49 zo49) <| zN (oAl 2 ze49 zo49) <| zT (oSt sh49) <| zT (oSt sh49) <| zZ) ?_
  refine pwp_seq <| pwp_seq <| kx [(21, (vb (decide ((cmpI z (-9223372036854775808)) < 0) || decide (0 < (cmpI z 9223372036854775807)))))] [] ?_ ?_
  · refine zR (oLa sh49) <| zR (oLa sh49) <| zE (oCl (rs_compare hz (iok_int (z := (-9223372036854775808)) (by omega) (by omega)) (by decide) (by decide))) <| zE oLt <| zE (oV (vb (decide ((cmpI z (-9223372036854775808)) < 0))) (mv_ok (by kernel_rfl))) <| ?_
    rcases hb1 : (decide ((cmpI z (-9223372036854775808)) < 0)) with _ | _
    · replace hb1 := of_decide_eq_false hb1
      exact zR (oLa sh49) <| zR (oLa sh49) <| zE (oCl (rs_compare hz (iok_int (z := 9223372036854775807) (by omega) (by omega)) (by decide) (by decide))) <| zE oGt <| zE oPo <| zZ
    · replace hb1 := of_decide_eq_true hb1
      exact zK <| zK <| zK <| zK <| zE oPt <| zZ
  refine pwp_cond rfl (fun h2 => ?_) (fun h2 => ?_)
  · refine pwp_seq <| kx [(2, (vin 0)), (3, (vb false))] [] (zM <| zM <| zZ) ?_
    refine pwp_ret ⟨_, (.tmp (d := (.val (.int .i64 (0)))) rfl (.tmp (d := (.val (.bool (false)))) rfl .nil)), ?_⟩
    obtain ⟨q1, q2⟩ := fit_no h2
    rw [q1, q2]; rfl
  · have hfz := fit_of h2
    refine pwp_skip <| pwp_seq <| kx [(6, (vin 0))] [] (zM <| zZ) ?_
    refine pwp_seq <| pwp_seq <| kx [(7, (vi ((((ofNat (Int.natAbs z)).length : Nat) : Int) - 1)))] [] (zE (oFr fo49_1) <| zR (oL1 sh47) <| zE (oLm el47 (L := (ofNat (Int.natAbs z)))) <| zE (zSb ((((ofNat (Int.natAbs z)).length : Nat) : Int) - 1) (hr := by exact (wAny (by first | omega | rfl | (dsimp only; omega)) (by simp only [kLo]; omega) (by simp only [kHi]; omega)))) <| zM <| zZ) ?_
    refine pwp_block <| pwp_loop (α := Nat × Int) (fun (k, v) => ⟨[(1, (.ref 0 0)), (6, (vi v)), (7, (vi (((k : Nat) : Int) - 1)))], [(0, some (bx (encI (ofZ z))))]⟩) (fun (k, v) => k ≤ (ofNat (Int.natAbs z)).length ∧ v = svI z k) (fun (k, v) => k) ((ofNat (Int.natAbs z)).length, 0) wk ⟨Nat.le_refl _, (sv_end z).symm⟩ ?_
    rintro ⟨k, v⟩ ⟨hk, hv⟩
    refine pwp_seq <| pwp_seq <| kx [(27, (vb (decide (0 ≤ (((k : Nat) : Int) - 1)))))] [] (zM <| zE oGe <| zZ) ?_
    refine pwp_cond (b := decide (0 ≤ (((k : Nat) : Int) - 1))) rfl (fun h3 => ?_) (fun h3 => ?_)
    · replace h3 := of_decide_eq_true h3
      have hdg := (ofNat_dig z.natAbs).getD (k - 1)
      have hkb := sv_b2 hfz.1 hfz.2 (k - 1)
      have hkc := sv_bd hfz.1 hfz.2 (k - 1)
      rw [show k - 1 + 1 = k by omega] at hkb
      refine pwp_skip <| pwp_seq <| pwp_block <| pwp_seq <| kx [(31, (vb ((ofZ z).neg)))] [] (zE (oFr fo49_0) <| zR (oL1 sh4) <| zZ) ?_
      refine pwp_cond (b := (ofZ z).neg) rfl (fun h4 => ?_) (fun h4 => ?_)
      · have hst := sv_n (k := k - 1) h4
        rw [show k - 1 + 1 = k by omega] at hst
        refine kx [(6, (vi ((v * 1000000000) - ((((ofNat (Int.natAbs z)).getD (k - 1) 0) : Nat) : Int))))] [] (zM <| zE (zMl (v * 1000000000) (hr := by exact (wAny rfl (by simp only [kLo]; omega) (by simp only [kHi]; omega)))) <| zE (oFr fo49_1) <| zR (oL1 sh47) <| zE (oQd (.val (.int .i64 ((((k : Nat) : Int) - 1)))) (.val (.int .i64 ((((k - 1) : Nat) : Int)))) (oV (vi (((k : Nat) : Int) - 1)) (mv_ok (by kernel_rfl))) (by exact (congrArg (fun z => Dat.val (.int .i64 z)) (by omega)))) <| zE (oXl el47 (k - 1) (0 : Nat) (L := (ofNat (Int.natAbs z)))) <| zE (oC1 sh135) <| zE (oCv un135 in3 ((ofNat (Int.natAbs z)).getD (k - 1) 0)) <| zE (zSb ((v * 1000000000) - ((((ofNat (Int.natAbs z)).getD (k - 1) 0) : Nat) : Int)) (hr := by exact (wAny rfl (by simp only [kLo]; omega) (by simp only [kHi]; omega)))) <| zM <| zZ) ?_
        refine kx [(7, (vi (((k - 1 : Nat) : Int) - 1)))] [] (zM <| zE (zSb (((k - 1 : Nat) : Int) - 1) (hr := by exact (wAny (by first | omega | rfl | (dsimp only; omega)) (by simp only [kLo]; omega) (by simp only [kHi]; omega)))) <| zM <| zZ) ?_
        exact ⟨(k - 1, v * 1000000000 - (((ofNat (Int.natAbs z)).getD (k - 1) 0 : Nat) : Int)), wk, ⟨by omega, by rw [hst, hv]⟩, (by first | omega | (dsimp only; omega))⟩
      · have hst := sv_p (k := k - 1) h4
        rw [show k - 1 + 1 = k by omega] at hst
        refine kx [(6, (vi ((v * 1000000000) + ((((ofNat (Int.natAbs z)).getD (k - 1) 0) : Nat) : Int))))] [] (zM <| zE (zMl (v * 1000000000) (hr := by exact (wAny rfl (by simp only [kLo]; omega) (by simp only [kHi]; omega)))) <| zE (oFr fo49_1) <| zR (oL1 sh47) <| zE (oQd (.val (.int .i64 ((((k : Nat) : Int) - 1)))) (.val (.int .i64 ((((k - 1) : Nat) : Int)))) (oV (vi (((k : Nat) : Int) - 1)) (mv_ok (by kernel_rfl))) (by exact (congrArg (fun z => Dat.val (.int .i64 z)) (by omega)))) <| zE (oXl el47 (k - 1) (0 : Nat) (L := (ofNat (Int.natAbs z)))) <| zE (oC1 sh135) <| zE (oCv un135 in3 ((ofNat (Int.natAbs z)).getD (k - 1) 0)) <| zE (zAd ((v * 1000000000) + ((((ofNat (Int.natAbs z)).getD (k - 1) 0) : Nat) : Int)) (hr := by exact (wAny rfl (by simp only [kLo]; omega) (by simp only [kHi]; omega)))) <| zM <| zZ) ?_
        refine kx [(7, (vi (((k - 1 : Nat) : Int) - 1)))] [] (zM <| zE (zSb (((k - 1 : Nat) : Int) - 1) (hr := by exact (wAny (by first | omega | rfl | (dsimp only; omega)) (by simp only [kLo]; omega) (by simp only [kHi]; omega)))) <| zM <| zZ) ?_
        exact ⟨(k - 1, v * 1000000000 + (((ofNat (Int.natAbs z)).getD (k - 1) 0 : Nat) : Int)), wk, ⟨by omega, by rw [hst, hv]⟩, (by first | omega | (dsimp only; omega))⟩
    · replace h3 := of_decide_eq_false h3
      obtain ⟨q1, q2⟩ := fit_yes hfz
      obtain rfl : k = 0 := by omega
      rw [sv_0] at hv
      refine pwp_exit <| pwp_seq <| kx [(2, (vi v)), (3, (vb true))] [] (zM <| zM <| zM <| zZ) ?_
      refine pwp_ret ⟨_, (.tmp (d := (.val (.int .i64 (v)))) rfl (.tmp (d := (.val (.bool (true)))) rfl .nil)), ?_⟩
      rw [q1, q2, hv]; rfl
theorem l8_prim (z0 z1 z2 z3 : Int) (hz0 : IOk (ofZ z0) z0 4) (hz1 : IOk (ofZ z1) z1 4) (hz2 : IOk (ofZ z2) z2 4) (hz3 : IOk (ofZ z3) z3 4) (hnz : Qnz (RQuat.mk z0 z1 z2 z3)) : Takes Tryz.prog 161 [(.sl 49 2 (List.map encI [(ofZ z0), (ofZ z1), (ofZ z2), (ofZ z3)]))] (.tup [(encQuat (qV (RQuat.mk z0 z1 z2 z3))), (.val (.int .i64 ((((qC (RQuat.mk z0 z1 z2 z3)) : Nat) : Int))))]) := by
  have hln := q4_len hz0 hz1 hz2 hz3
  have hgI := gcd_iok hln
  have hgn := gcd_n hnz
  let y2 := [(ofZ z0), (ofZ z1), (ofZ z2), (ofZ z3)]
  let y1 := (bx (encI (ofZ ((Int.gcd (((Int.gcd (((Int.gcd (((Int.gcd 0 z0 : Nat) : Int)) z1 : Nat) : Int)) z2 : Nat) : Int)) z3 : Nat) : Int))))
  refine fn_intro Tryz.func161 rfl cb161 rfl ?_
  show PWp _ _ _ _ ⟨[(0, (vl 49 2 encI y2))], []⟩
  refine pwp_seq <| kx [(2, (.ref 0 0))] [(0, some (bx (encQuat (RQuat.mk 0 0 0 0))))] (zN (oAl 0 ze28 zo28) <| zM <| zZ) ?_
  refine pwp_seq <| kx [(4, (.ref 1 0))] [(1, some (bx (encI (ofZ 0))))] (zE (oCl (r_of 0 (by decide) (by decide))) <| zN (oAl 1 ze49 zo49) <| zT (oSt sh49) <| zZ) ?_
  refine pwp_seq <| pwp_seq <| kx [(5, (vin 0))] [] (zM <| zZ) ?_
  refine pwp_block <| pwp_rounds 20 ?_
  refine pwp_round <| pwp_seq <| pwp_seq <| kx [(17, (vb true))] [] (zM <| zE (oBk true oLt) <| zZ) ?_
  refine pwp_cond (b := true) (by kernel_rfl) (fun _ => ?_) (fun h => by cases h)
  refine pwp_skip <| pwp_seq <| pwp_block <| kd [] [(1, some (bx (encI (ofZ ((Int.gcd 0 z0 : Nat) : Int)))))] mo (wR (oLa sh49) <| wM <| wM <| wE (oXs el192 0) <| wE (oCa sh49) <| wE (oCl (rs_gcd (iok_small (z := 0) (by decide)) hz0 (by decide) (by decide))) <| wT (oSt sh49) <| wZ) ?_
  refine kx [(5, (vin 1))] [] (zM <| zE (oAd 1 (hr := by decide)) <| zM <| zZ) ?_
  refine pwp_again (SimImp.refl _) ?_
  refine pwp_seq <| pwp_seq <| kx [(17, (vb true))] [] (zM <| zE (oBk true oLt) <| zZ) ?_
  refine pwp_cond (b := true) (by kernel_rfl) (fun _ => ?_) (fun h => by cases h)
  refine pwp_skip <| pwp_seq <| pwp_block <| kd [] [(1, some (bx (encI (ofZ ((Int.gcd (((Int.gcd 0 z0 : Nat) : Int)) z1 : Nat) : Int)))))] mo (wR (oLa sh49) <| wM <| wM <| wE (oXs el192 1) <| wE (oCa sh49) <| wE (oCl (rs_gcd (iok_gcd (k := 4) (iok_small (z := 0) (by decide)) hz0 (by decide)) hz1 (by decide) (by decide))) <| wT (oSt sh49) <| wZ) ?_
  refine kx [(5, (vin 2))] [] (zM <| zE (oAd 2 (hr := by decide)) <| zM <| zZ) ?_
  refine pwp_again (SimImp.refl _) ?_
  refine pwp_seq <| pwp_seq <| kx [(17, (vb true))] [] (zM <| zE (oBk true oLt) <| zZ) ?_
  refine pwp_cond (b := true) (by kernel_rfl) (fun _ => ?_) (fun h => by cases h)
  refine pwp_skip <| pwp_seq <| pwp_block <| kd [] [(1, some (bx (encI (ofZ ((Int.gcd (((Int.gcd (((Int.gcd 0 z0 : Nat) : Int)) z1 : Nat) : Int)) z2 : Nat) : Int)))))] mo (wR (oLa sh49) <| wM <| wM <| wE (oXs el192 2) <| wE (oCa sh49) <| wE (oCl (rs_gcd (iok_gcd (k := 4) (iok_gcd (k := 4) (iok_small (z := 0) (by decide)) hz0 (by decide)) hz1 (by decide)) hz2 (by decide) (by decide))) <| wT (oSt sh49) <| wZ) ?_
  refine kx [(5, (vin 3))] [] (zM <| zE (oAd 3 (hr := by decide)) <| zM <| zZ) ?_
  refine pwp_again (SimImp.refl _) ?_
  refine pwp_seq <| pwp_seq <| kx [(17, (vb true))] [] (zM <| zE (oBk true oLt) <| zZ) ?_
  refine pwp_cond (b := true) (by kernel_rfl) (fun _ => ?_) (fun h => by cases h)
  refine pwp_skip <| pwp_seq <| pwp_block <| kd [] [(1, some y1)] mo (wR (oLa sh49) <| wM <| wM <| wE (oXs el192 3) <| wE (oCa sh49) <| wE (oCl (rs_gcd (iok_gcd (k := 4) (iok_gcd (k := 4) (iok_gcd (k := 4) (iok_small (z := 0) (by decide)) hz0 (by decide)) hz1 (by decide)) hz2 (by decide)) hz3 (by decide) (by decide))) <| wT (oSt sh49) <| wZ) ?_
  refine pwp_sim (wk (l := [(0, (vl 49 2 encI y2)), (2, (.ref 0 0)), (4, (.ref 1 0)), (5, (vin 3))]) (b := [(0, some (bx (encQuat (RQuat.mk 0 0 0 0)))), (1, some y1)])) ?_
  refine kx [(5, (vin 4))] [] (zM <| zE (oAd 4 (hr := by decide)) <| zM <| zZ) ?_
  refine pwp_again (SimImp.refl _) ?_
  refine pwp_seq <| pwp_seq <| kx [(17, (vb false))] [] (zM <| zE (oBk false oLt) <| zZ) ?_
  refine pwp_cond (b := false) (by kernel_rfl) (fun h => by cases h) (fun _ => ?_)
  refine pwp_exit <| pwp_seq <| kx [(6, (vin 0))] [] (zM <| zZ) ?_
  refine pwp_meet (α := Int) (fun s => ⟨[(0, (vl 49 2 encI y2)), (2, (.ref 0 0)), (4, (.ref 1 0)), (6, (vi s))], [(0, some (bx (encQuat (RQuat.mk 0 0 0 0)))), (1, some y1)]⟩) (fun s => s = sgnL (qL (RQuat.mk z0 z1 z2 z3))) ?_ ?_
  · refine pwp_seq <| kx [(7, (vin 0))] [] (zM <| zZ) ?_
    refine pwp_block <| pwp_rounds 20 ?_
    refine pwp_round <| pwp_seq <| pwp_seq <| kx [(27, (vb true))] [] (zM <| zE (oBk true oLt) <| zZ) ?_
    refine pwp_cond (b := true) (by kernel_rfl) (fun _ => ?_) (fun h => by cases h)
    refine pwp_skip <| pwp_seq <| pwp_block <| pwp_seq <| kx [(31, (vb true))] [] (zM <| zE (oBk true oEq) <| zZ) ?_
    refine pwp_cond (b := true) (by kernel_rfl) (fun _ => ?_) (fun h => by cases h)
    refine kx [(6, (vi (signI z0)))] [] (zM <| zM <| zE (oXs el192 0) <| zE (oCa sh49) <| zE (oCl (rs_sign hz0 (by decide))) <| zM <| zZ) ?_
    refine kx [(7, (vin 1))] [] (zM <| zE (oAd 1 (hr := by decide)) <| zM <| zZ) ?_
    refine pwp_again (SimImp.refl _) ?_
    refine pwp_seq <| pwp_seq <| kx [(27, (vb true))] [] (zM <| zE (oBk true oLt) <| zZ) ?_
    refine pwp_cond (b := true) (by kernel_rfl) (fun _ => ?_) (fun h => by cases h)
    refine pwp_skip <| pwp_seq <| pwp_block <| pwp_seq <| kx [(31, (vb ((signI z0) == ((0 : Nat) : Int))))] [] (zM <| zE oEq <| zZ) ?_
    refine pwp_cond (b := ((signI z0) == ((0 : Nat) : Int))) rfl (fun h1 => ?_) (fun h1 => ?_)
    · replace h1 := eq_of_beq h1
      refine kx [(6, (vi (signI z1)))] [] (zM <| zM <| zE (oXs el192 1) <| zE (oCa sh49) <| zE (oCl (rs_sign hz1 (by decide))) <| zM <| zZ) ?_
      refine kx [(7, (vin 2))] [] (zM <| zE (oAd 2 (hr := by decide)) <| zM <| zZ) ?_
      refine pwp_again (SimImp.refl _) ?_
      refine pwp_seq <| pwp_seq <| kx [(27, (vb true))] [] (zM <| zE (oBk true oLt) <| zZ) ?_
      refine pwp_cond (b := true) (by kernel_rfl) (fun _ => ?_) (fun h => by cases h)
      refine pwp_skip <| pwp_seq <| pwp_block <| pwp_seq <| kx [(31, (vb ((signI z1) == ((0 : Nat) : Int))))] [] (zM <| zE oEq <| zZ) ?_
      refine pwp_cond (b := ((signI z1) == ((0 : Nat) : Int))) rfl (fun h2 => ?_) (fun h2 => ?_)
      · replace h2 := eq_of_beq h2
        refine pwp_sim (wk (l := [(0, (vl 49 2 encI y2)), (2, (.ref 0 0)), (4, (.ref 1 0)), (6, (vi (signI z1))), (7, (vin 2)), (31, (vb ((signI z1) == ((0 : Nat) : Int))))]) (b := [(0, some (bx (encQuat (RQuat.mk 0 0 0 0)))), (1, some y1)])) ?_
        refine kx [(6, (vi (signI z2)))] [] (zM <| zM <| zE (oXs el192 2) <| zE (oCa sh49) <| zE (oCl (rs_sign hz2 (by decide))) <| zM <| zZ) ?_
        refine kx [(7, (vin 3))] [] (zM <| zE (oAd 3 (hr := by decide)) <| zM <| zZ) ?_
        refine pwp_again (SimImp.refl _) ?_
        refine pwp_seq <| pwp_seq <| kx [(27, (vb true))] [] (zM <| zE (oBk true oLt) <| zZ) ?_
        refine pwp_cond (b := true) (by kernel_rfl) (fun _ => ?_) (fun h => by cases h)
        refine pwp_skip <| pwp_seq <| pwp_block <| pwp_seq <| kx [(31, (vb ((signI z2) == ((0 : Nat) : Int))))] [] (zM <| zE oEq <| zZ) ?_
        refine pwp_cond (b := ((signI z2) == ((0 : Nat) : Int))) rfl (fun h3 => ?_) (fun h3 => ?_)
        · replace h3 := eq_of_beq h3
          refine kx [(6, (vi (signI z3)))] [] (zM <| zM <| zE (oXs el192 3) <| zE (oCa sh49) <| zE (oCl (rs_sign hz3 (by decide))) <| zM <| zZ) ?_
          refine kx [(7, (vin 4))] [] (zM <| zE (oAd 4 (hr := by decide)) <| zM <| zZ) ?_
          refine pwp_again (SimImp.refl _) ?_
          refine pwp_seq <| pwp_seq <| kx [(27, (vb false))] [] (zM <| zE (oBk false oLt) <| zZ) ?_
          refine pwp_cond (b := false) (by kernel_rfl) (fun h => by cases h) (fun _ => ?_)
          refine pwp_exit ?_
          exact met (signI z3) wk (sgs_3 h1 h2 h3)
        · replace h3 := ne_of_beq_false h3
          refine pwp_skip <| kx [(7, (vin 4))] [] (zM <| zE (oAd 4 (hr := by decide)) <| zM <| zZ) ?_
          refine pwp_again (SimImp.refl _) ?_
          refine pwp_seq <| pwp_seq <| kx [(27, (vb false))] [] (zM <| zE (oBk false oLt) <| zZ) ?_
          refine pwp_cond (b := false) (by kernel_rfl) (fun h => by cases h) (fun _ => ?_)
          refine pwp_exit ?_
          exact met (signI z2) wk (sgs_2 h1 h2 h3)
      · replace h2 := ne_of_beq_false h2
        refine pwp_skip <| pwp_sim (wk (l := [(0, (vl 49 2 encI y2)), (2, (.ref 0 0)), (4, (.ref 1 0)), (6, (vi (signI z1))), (7, (vin 2)), (31, (vb ((signI z1) == ((0 : Nat) : Int))))]) (b := [(0, some (bx (encQuat (RQuat.mk 0 0 0 0)))), (1, some y1)])) ?_
        refine kx [(7, (vin 3))] [] (zM <| zE (oAd 3 (hr := by decide)) <| zM <| zZ) ?_
        refine pwp_again (SimImp.refl _) ?_
        refine pwp_seq <| pwp_seq <| kx [(27, (vb true))] [] (zM <| zE (oBk true oLt) <| zZ) ?_
        refine pwp_cond (b := true) (by kernel_rfl) (fun _ => ?_) (fun h => by cases h)
        refine pwp_skip <| pwp_seq <| pwp_block <| pwp_seq <| kx [(31, (vb false))] [] (zM <| zE (oBk false oEq (by exact beq_eq_false_iff_ne.2 h2)) <| zZ) ?_
        refine pwp_cond (b := false) (by kernel_rfl) (fun h => by cases h) (fun _ => ?_)
        refine pwp_skip <| kx [(7, (vin 4))] [] (zM <| zE (oAd 4 (hr := by decide)) <| zM <| zZ) ?_
        refine pwp_again (SimImp.refl _) ?_
        refine pwp_seq <| pwp_seq <| kx [(27, (vb false))] [] (zM <| zE (oBk false oLt) <| zZ) ?_
        refine pwp_cond (b := false) (by kernel_rfl) (fun h => by cases h) (fun _ => ?_)
        refine pwp_exit ?_
        exact met (signI z1) wk (sgs_1 h1 h2)
    · replace h1 := ne_of_beq_false h1
      refine pwp_skip <| kx [(7, (vin 2))] [] (zM <| zE (oAd 2 (hr := by decide)) <| zM <| zZ) ?_
      refine pwp_again (SimImp.refl _) ?_
      refine pwp_seq <| pwp_seq <| kx [(27, (vb true))] [] (zM <| zE (oBk true oLt) <| zZ) ?_
      refine pwp_cond (b := true) (by kernel_rfl) (fun _ => ?_) (fun h => by cases h)
      refine pwp_skip <| pwp_seq <| pwp_block <| pwp_seq <| kx [(31, (vb false))] [] (zM <| zE (oBk false oEq (by exact beq_eq_false_iff_ne.2 h1)) <| zZ) ?_
      refine pwp_cond (b := false) (by kernel_rfl) (fun h => by cases h) (fun _ => ?_)
      refine pwp_skip <| kx [(7, (vin 3))] [] (zM <| zE (oAd 3 (hr := by decide)) <| zM <| zZ) ?_
      refine pwp_again (SimImp.refl _) ?_
      refine pwp_seq <| pwp_seq <| pwp_sim (wk (l := [(0, (vl 49 2 encI y2)), (2, (.ref 0 0)), (4, (.ref 1 0)), (6, (vi (signI z0))), (7, (vin 3))]) (b := [(0, some (bx (encQuat (RQuat.mk 0 0 0 0)))), (1, some y1)])) ?_
      refine kx [(27, (vb true))] [] (zM <| zE (oBk true oLt) <| zZ) ?_
      refine pwp_cond (b := true) (by kernel_rfl) (fun _ => ?_) (fun h => by cases h)
      refine pwp_skip <| pwp_seq <| pwp_block <| pwp_seq <| kx [(31, (vb false))] [] (zM <| zE (oBk false oEq (by exact beq_eq_false_iff_ne.2 h1)) <| zZ) ?_
      refine pwp_cond (b := false) (by kernel_rfl) (fun h => by cases h) (fun _ => ?_)
      refine pwp_skip <| kx [(7, (vin 4))] [] (zM <| zE (oAd 4 (hr := by decide)) <| zM <| zZ) ?_
      refine pwp_again (SimImp.refl _) ?_
      refine pwp_seq <| pwp_seq <| kx [(27, (vb false))] [] (zM <| zE (oBk false oLt) <| zZ) ?_
      refine pwp_cond (b := false) (by kernel_rfl) (fun h => by cases h) (fun _ => ?_)
      refine pwp_exit ?_
      exact met (signI z0) wk (sgs_0 h1)
  · rintro s hs
    refine pwp_meet (α := Int) (fun d => ⟨[(0, (vl 49 2 encI y2)), (2, (.ref 0 0)), (4, (.ref 1 0))], [(0, some (bx (encQuat (RQuat.mk 0 0 0 0)))), (1, some (bx (encI (ofZ d))))]⟩) (fun d => dvL (qL (RQuat.mk z0 z1 z2 z3)) = d) ?_ ?_
    · refine pwp_seq <| kx [(38, (vb (decide (s < ((0 : Nat) : Int)))))] [] (zM <| zE oLt <| zZ) ?_
      refine pwp_cond (b := decide (s < ((0 : Nat) : Int))) rfl (fun h4 => ?_) (fun h4 => ?_)
      · replace h4 := of_decide_eq_true h4
        refine kx [] [(1, some (bx (encI (ofZ (-(((Int.gcd (((Int.gcd (((Int.gcd (((Int.gcd 0 z0 : Nat) : Int)) z1 : Nat) : Int)) z2 : Nat) : Int)) z3 : Nat) : Int)))))))] (zR (oLa sh49) <| zE (oCl (rs_neg (iok_gcd (k := 4) (iok_gcd (k := 4) (iok_gcd (k := 4) (iok_gcd (k := 4) (iok_small (z := 0) (by decide)) hz0 (by decide)) hz1 (by decide)) hz2 (by decide)) hz3 (by decide)) (by decide))) <| zT (oSt sh49) <| zZ) ?_
        exact met (-((Int.gcd ((Int.gcd ((Int.gcd ((Int.gcd 0 z0 : Nat) : Int) z1 : Nat) : Int) z2 : Nat) : Int) z3 : Nat) : Int)) wk (dv_ns hs h4)
      · replace h4 := of_decide_eq_false h4
        refine pwp_skip ?_
        exact met ((Int.gcd ((Int.gcd ((Int.gcd ((Int.gcd 0 z0 : Nat) : Int) z1 : Nat) : Int) z2 : Nat) : Int) z3 : Nat) : Int) wk (dv_ps hs h4)
    · rintro d hd
      have hdI : IOk (ofZ d) d 4 := by rw [← hd]; exact iok_of (dvL_len hln)
      have hdn : d ≠ 0 := by rw [← hd]; exact dvL_ne hnz
      refine pwp_seq <| kx [(8, (.own 2 3 1 0))] [(2, some (bm enc_i64 []))] (zN (oBo 2 el60 ze3 zo3) <| zM <| zZ) ?_
      refine pwp_seq <| pwp_seq <| kx [(9, (vin 0))] [] (zM <| zZ) ?_
      refine pwp_block <| pwp_rounds 20 ?_
      refine pwp_round <| pwp_seq <| pwp_seq <| kx [(43, (vb true))] [] (zM <| zE (oBk true oLt) <| zZ) ?_
      refine pwp_cond (b := true) (by kernel_rfl) (fun _ => ?_) (fun h => by cases h)
      refine pwp_skip <| pwp_seq <| pwp_block <| pwp_seq <| kd [(10, (.ref 3 0))] [(3, some (bx (encI (ofZ (z0.fdiv d))))), (4, none)] mo (wM <| wM <| wE (oXs el192 0) <| wE (oCa sh49) <| wR (oLa sh49) <| wE (oCl (rs_divide hz0 hdI (by decide) (by decide) hdn)) <| wM <| wE oEx <| wE oEx <| wE oEx <| wH (hc := by kernel_rfl) (oAl 3 ze49 zo49) <| wH (hc := by kernel_rfl) (oAl 4 ze49 zo49) <| wT (oSt sh49) <| wT (oSt sh49) <| wM <| wZ) ?_
      refine pwp_seq <| kx [(13, (vi (smallI (z0.fdiv d)))), (14, (vb (fits64 (z0.fdiv d))))] [] (zR (oLa sh49) <| zE (oCl (l8_small (z0.fdiv d) (iok_up (iok_fdiv (k := 5) hz0 hdI (by decide)) (by decide)))) <| zM <| zE oEx <| zE oEx <| zM <| zM <| zZ) ?_
      refine pwp_seq <| pwp_seq <| kx [(70, (vb ((!(fits64 (z0.fdiv d)) || decide (((1048576 : Nat) : Int) < (smallI (z0.fdiv d)))) || decide ((smallI (z0.fdiv d)) < -1048576))))] [] ?_ ?_
      · refine zM <| zE oNt <| zE (oV (vb (!(fits64 (z0.fdiv d)))) (mv_ok (by kernel_rfl))) <| ?_
        rcases hb5 : (!(fits64 (z0.fdiv d))) with _ | _
        · refine zM <| zE oGt <| zE oPo <| zE (oV (vb (false || decide (((1048576 : Nat) : Int) < (smallI (z0.fdiv d))))) (mv_ok (by kernel_rfl))) <| ?_
          rcases hb6 : (false || decide (((1048576 : Nat) : Int) < (smallI (z0.fdiv d)))) with _ | _
          · replace hb6 := of_decide_eq_false (p := (((1048576 : Nat) : Int) < (smallI (z0.fdiv d)))) hb6
            exact zM <| zE oLt <| zE oPo <| zZ
          · replace hb6 := of_decide_eq_true (p := (((1048576 : Nat) : Int) < (smallI (z0.fdiv d)))) hb6
            exact zK <| zK <| zE oPt <| zZ
        · exact zK <| zK <| zE oPt <| zM <| zK <| zK <| zE oPt <| zZ
      refine pwp_cond rfl (fun h7 => ?_) (fun h7 => ?_)
      · refine pwp_seq <| kx [(3, (vin 3))] [(0, some (bx (encQuat (RQuat.mk 0 0 0 0))))] (zE (oBd pl28 ze28 zo28) <| zT (oSt sh28) <| zM <| zZ) ?_
        refine pwp_ret ⟨_, (res_a (cs := (bx (encQuat (RQuat.mk 0 0 0 0)))) (d := (encQuat (RQuat.mk 0 0 0 0))) rfl rfl sh28 rfl rfl (.tmp (d := (.val (.int .i64 (((3 : Nat) : Int))))) rfl .nil)), ?_⟩
        obtain ⟨q1, q2⟩ := prim_n (q := (RQuat.mk z0 z1 z2 z3)) hd (x := z0) (.inl rfl) ((smB_eq _).symm.trans h7)
        rw [q1, q2]; rfl
      · refine pwp_skip <| kf [(8, (.own 2 3 1 ([(smallI (z0.fdiv d))].length)))] [(2, some (bm enc_i64 [(smallI (z0.fdiv d))]))] (zM <| zM <| zE (oBs el60 ze3 zo3) <| zA enc_i64 [] [(smallI (z0.fdiv d))] rfl el60 ze3 by3 (hbig := by exact (by simp +zetaDelta [maxLen] <;> omega)) (hbig' := by exact (by simp +zetaDelta <;> omega)) <| zM <| zF) ?_
        refine kx [(9, (vin 1))] [] (zM <| zE (oAd 1 (hr := by decide)) <| zM <| zZ) ?_
        refine pwp_again (SimImp.refl _) ?_
        refine pwp_seq <| pwp_seq <| kx [(43, (vb true))] [] (zM <| zE (oBk true oLt) <| zZ) ?_
        refine pwp_cond (b := true) (by kernel_rfl) (fun _ => ?_) (fun h => by cases h)
        refine pwp_skip <| pwp_seq <| pwp_block <| pwp_seq <| kd [(10, (.ref 5 0))] [(5, some (bx (encI (ofZ (z1.fdiv d))))), (6, none)] mo (wM <| wM <| wE (oXs el192 1) <| wE (oCa sh49) <| wR (oLa sh49) <| wE (oCl (rs_divide hz1 hdI (by decide) (by decide) hdn)) <| wM <| wE oEx <| wE oEx <| wE oEx <| wH (hc := by kernel_rfl) (oAl 5 ze49 zo49) <| wH (hc := by kernel_rfl) (oAl 6 ze49 zo49) <| wT (oSt sh49) <| wT (oSt sh49) <| wM <| wZ) ?_
        refine pwp_seq <| kx [(13, (vi (smallI (z1.fdiv d)))), (14, (vb (fits64 (z1.fdiv d))))] [] (zR (oLa sh49) <| zE (oCl (l8_small (z1.fdiv d) (iok_up (iok_fdiv (k := 5) hz1 hdI (by decide)) (by decide)))) <| zM <| zE oEx <| zE oEx <| zM <| zM <| zZ) ?_
        refine pwp_seq <| pwp_seq <| kx [(70, (vb ((!(fits64 (z1.fdiv d)) || decide (((1048576 : Nat) : Int) < (smallI (z1.fdiv d)))) || decide ((smallI (z1.fdiv d)) < -1048576))))] [] ?_ ?_
        · refine zM <| zE oNt <| zE (oV (vb (!(fits64 (z1.fdiv d)))) (mv_ok (by kernel_rfl))) <| ?_
          rcases hb8 : (!(fits64 (z1.fdiv d))) with _ | _
          · refine zM <| zE oGt <| zE oPo <| zE (oV (vb (false || decide (((1048576 : Nat) : Int) < (smallI (z1.fdiv d))))) (mv_ok (by kernel_rfl))) <| ?_
            rcases hb9 : (false || decide (((1048576 : Nat) : Int) < (smallI (z1.fdiv d)))) with _ | _
            · replace hb9 := of_decide_eq_false (p := (((1048576 : Nat) : Int) < (smallI (z1.fdiv d)))) hb9
              exact zM <| zE oLt <| zE oPo <| zZ
            · replace hb9 := of_decide_eq_true (p := (((1048576 : Nat) : Int) < (smallI (z1.fdiv d)))) hb9
              exact zK <| zK <| zE oPt <| zZ
          · exact zK <| zK <| zE oPt <| zM <| zK <| zK <| zE oPt <| zZ
        refine pwp_cond rfl (fun h10 => ?_) (fun h10 => ?_)
        · refine pwp_seq <| kx [(3, (vin 3))] [(0, some (bx (encQuat (RQuat.mk 0 0 0 0))))] (zE (oBd pl28 ze28 zo28) <| zT (oSt sh28) <| zM <| zZ) ?_
          refine pwp_ret ⟨_, (res_a (cs := (bx (encQuat (RQuat.mk 0 0 0 0)))) (d := (encQuat (RQuat.mk 0 0 0 0))) rfl rfl sh28 rfl rfl (.tmp (d := (.val (.int .i64 (((3 : Nat) : Int))))) rfl .nil)), ?_⟩
          obtain ⟨q1, q2⟩ := prim_n (q := (RQuat.mk z0 z1 z2 z3)) hd (x := z1) (.inr (.inl rfl)) ((smB_eq _).symm.trans h10)
          rw [q1, q2]; rfl
        · refine pwp_skip <| kf [(8, (.own 2 3 1 ([(smallI (z0.fdiv d)), (smallI (z1.fdiv d))].length)))] [(2, some (bm enc_i64 [(smallI (z0.fdiv d)), (smallI (z1.fdiv d))]))] (zM <| zM <| zE (oBs el60 ze3 zo3) <| zA enc_i64 [(smallI (z0.fdiv d))] [(smallI (z1.fdiv d))] rfl el60 ze3 by3 (hbig := by exact (by simp +zetaDelta [maxLen] <;> omega)) (hbig' := by exact (by simp +zetaDelta <;> omega)) <| zM <| zF) ?_
          refine kx [(9, (vin 2))] [] (zM <| zE (oAd 2 (hr := by decide)) <| zM <| zZ) ?_
          refine pwp_again (SimImp.refl _) ?_
          refine pwp_seq <| pwp_seq <| pwp_sim (wk (l := [(0, (vl 49 2 encI y2)), (2, (.ref 0 0)), (4, (.ref 1 0)), (8, (.own 2 3 1 ([(smallI (z0.fdiv d)), (smallI (z1.fdiv d))].length))), (9, (vin 2))]) (b := [(0, some (bx (encQuat (RQuat.mk 0 0 0 0)))), (1, some (bx (encI (ofZ d)))), (2, some (bm enc_i64 [(smallI (z0.fdiv d)), (smallI (z1.fdiv d))]))])) ?_
          refine kx [(43, (vb true))] [] (zM <| zE (oBk true oLt) <| zZ) ?_
          refine pwp_cond (b := true) (by kernel_rfl) (fun _ => ?_) (fun h => by cases h)
          refine pwp_skip <| pwp_seq <| pwp_block <| pwp_seq <| kd [(10, (.ref 7 0))] [(7, some (bx (encI (ofZ (z2.fdiv d))))), (8, none)] mo (wM <| wM <| wE (oXs el192 2) <| wE (oCa sh49) <| wR (oLa sh49) <| wE (oCl (rs_divide hz2 hdI (by decide) (by decide) hdn)) <| wM <| wE oEx <| wE oEx <| wE oEx <| wH (hc := by kernel_rfl) (oAl 7 ze49 zo49) <| wH (hc := by kernel_rfl) (oAl 8 ze49 zo49) <| wT (oSt sh49) <| wT (oSt sh49) <| wM <| wZ) ?_
          refine pwp_seq <| kx [(13, (vi (smallI (z2.fdiv d)))), (14, (vb (fits64 (z2.fdiv d))))] [] (zR (oLa sh49) <| zE (oCl (l8_small (z2.fdiv d) (iok_up (iok_fdiv (k := 5) hz2 hdI (by decide)) (by decide)))) <| zM <| zE oEx <| zE oEx <| zM <| zM <| zZ) ?_
          refine pwp_seq <| pwp_seq <| kx [(70, (vb ((!(fits64 (z2.fdiv d)) || decide (((1048576 : Nat) : Int) < (smallI (z2.fdiv d)))) || decide ((smallI (z2.fdiv d)) < -1048576))))] [] ?_ ?_
          · refine zM <| zE oNt <| zE (oV (vb (!(fits64 (z2.fdiv d)))) (mv_ok (by kernel_rfl))) <| ?_
            rcases hb11 : (!(fits64 (z2.fdiv d))) with _ | _
            · refine zM <| zE oGt <| zE oPo <| zE (oV (vb (false || decide (((1048576 : Nat) : Int) < (smallI (z2.fdiv d))))) (mv_ok (by kernel_rfl))) <| ?_
              rcases hb12 : (false || decide (((1048576 : Nat) : Int) < (smallI (z2.fdiv d)))) with _ | _
              · replace hb12 := of_decide_eq_false (p := (((1048576 : Nat) : Int) < (smallI (z2.fdiv d)))) hb12
                exact zM <| zE oLt <| zE oPo <| zZ
              · replace hb12 := of_decide_eq_true (p := (((1048576 : Nat) : Int) < (smallI (z2.fdiv d)))) hb12
                exact zK <| zK <| zE oPt <| zZ
            · exact zK <| zK <| zE oPt <| zM <| zK <| zK <| zE oPt <| zZ
          refine pwp_cond rfl (fun h13 => ?_) (fun h13 => ?_)
          · refine pwp_seq <| kx [(3, (vin 3))] [(0, some (bx (encQuat (RQuat.mk 0 0 0 0))))] (zE (oBd pl28 ze28 zo28) <| zT (oSt sh28) <| zM <| zZ) ?_
            refine pwp_ret ⟨_, (res_a (cs := (bx (encQuat (RQuat.mk 0 0 0 0)))) (d := (encQuat (RQuat.mk 0 0 0 0))) rfl rfl sh28 rfl rfl (.tmp (d := (.val (.int .i64 (((3 : Nat) : Int))))) rfl .nil)), ?_⟩
            obtain ⟨q1, q2⟩ := prim_n (q := (RQuat.mk z0 z1 z2 z3)) hd (x := z2) (.inr (.inr (.inl rfl))) ((smB_eq _).symm.trans h13)
            rw [q1, q2]; rfl
          · refine pwp_skip <| kf [(8, (.own 2 3 1 ([(smallI (z0.fdiv d)), (smallI (z1.fdiv d)), (smallI (z2.fdiv d))].length)))] [(2, some (bm enc_i64 [(smallI (z0.fdiv d)), (smallI (z1.fdiv d)), (smallI (z2.fdiv d))]))] (zM <| zM <| zE (oBs el60 ze3 zo3) <| zA enc_i64 [(smallI (z0.fdiv d)), (smallI (z1.fdiv d))] [(smallI (z2.fdiv d))] rfl el60 ze3 by3 (hbig := by exact (by simp +zetaDelta [maxLen] <;> omega)) (hbig' := by exact (by simp +zetaDelta <;> omega)) <| zM <| zF) ?_
            refine kx [(9, (vin 3))] [] (zM <| zE (oAd 3 (hr := by decide)) <| zM <| zZ) ?_
            refine pwp_again (SimImp.refl _) ?_
            refine pwp_seq <| pwp_seq <| kx [(43, (vb true))] [] (zM <| zE (oBk true oLt) <| zZ) ?_
            refine pwp_cond (b := true) (by kernel_rfl) (fun _ => ?_) (fun h => by cases h)
            refine pwp_skip <| pwp_seq <| pwp_block <| pwp_seq <| kd [(10, (.ref 9 0))] [(9, some (bx (encI (ofZ (z3.fdiv d))))), (10, none)] mo (wM <| wM <| wE (oXs el192 3) <| wE (oCa sh49) <| wR (oLa sh49) <| wE (oCl (rs_divide hz3 hdI (by decide) (by decide) hdn)) <| wM <| wE oEx <| wE oEx <| wE oEx <| wH (hc := by kernel_rfl) (oAl 9 ze49 zo49) <| wH (hc := by kernel_rfl) (oAl 10 ze49 zo49) <| wT (oSt sh49) <| wT (oSt sh49) <| wM <| wZ) ?_
            refine pwp_seq <| kx [(13, (vi (smallI (z3.fdiv d)))), (14, (vb (fits64 (z3.fdiv d))))] [] (zR (oLa sh49) <| zE (oCl (l8_small (z3.fdiv d) (iok_up (iok_fdiv (k := 5) hz3 hdI (by decide)) (by decide)))) <| zM <| zE oEx <| zE oEx <| zM <| zM <| zZ) ?_
            refine pwp_seq <| pwp_seq <| kx [(70, (vb ((!(fits64 (z3.fdiv d)) || decide (((1048576 : Nat) : Int) < (smallI (z3.fdiv d)))) || decide ((smallI (z3.fdiv d)) < -1048576))))] [] ?_ ?_
            · refine zM <| zE oNt <| zE (oV (vb (!(fits64 (z3.fdiv d)))) (mv_ok (by kernel_rfl))) <| ?_
              rcases hb14 : (!(fits64 (z3.fdiv d))) with _ | _
              · refine zM <| zE oGt <| zE oPo <| zE (oV (vb (false || decide (((1048576 : Nat) : Int) < (smallI (z3.fdiv d))))) (mv_ok (by kernel_rfl))) <| ?_
                rcases hb15 : (false || decide (((1048576 : Nat) : Int) < (smallI (z3.fdiv d)))) with _ | _
                · replace hb15 := of_decide_eq_false (p := (((1048576 : Nat) : Int) < (smallI (z3.fdiv d)))) hb15
                  exact zM <| zE oLt <| zE oPo <| zZ
                · replace hb15 := of_decide_eq_true (p := (((1048576 : Nat) : Int) < (smallI (z3.fdiv d)))) hb15
                  exact zK <| zK <| zE oPt <| zZ
              · exact zK <| zK <| zE oPt <| zM <| zK <| zK <| zE oPt <| zZ
            refine pwp_cond rfl (fun h16 => ?_) (fun h16 => ?_)
            · refine pwp_seq <| kx [(3, (vin 3))] [(0, some (bx (encQuat (RQuat.mk 0 0 0 0))))] (zE (oBd pl28 ze28 zo28) <| zT (oSt sh28) <| zM <| zZ) ?_
              refine pwp_ret ⟨_, (res_a (cs := (bx (encQuat (RQuat.mk 0 0 0 0)))) (d := (encQuat (RQuat.mk 0 0 0 0))) rfl rfl sh28 rfl rfl (.tmp (d := (.val (.int .i64 (((3 : Nat) : Int))))) rfl .nil)), ?_⟩
              obtain ⟨q1, q2⟩ := prim_n (q := (RQuat.mk z0 z1 z2 z3)) hd (x := z3) (.inr (.inr (.inr rfl))) ((smB_eq _).symm.trans h16)
              rw [q1, q2]; rfl
            · refine pwp_skip <| kf [(8, (.own 2 3 1 ([(smallI (z0.fdiv d)), (smallI (z1.fdiv d)), (smallI (z2.fdiv d)), (smallI (z3.fdiv d))].length)))] [(2, some (bm enc_i64 [(smallI (z0.fdiv d)), (smallI (z1.fdiv d)), (smallI (z2.fdiv d)), (smallI (z3.fdiv d))]))] (zM <| zM <| zE (oBs el60 ze3 zo3) <| zA enc_i64 [(smallI (z0.fdiv d)), (smallI (z1.fdiv d)), (smallI (z2.fdiv d))] [(smallI (z3.fdiv d))] rfl el60 ze3 by3 (hbig := by exact (by simp +zetaDelta [maxLen] <;> omega)) (hbig' := by exact (by simp +zetaDelta <;> omega)) <| zM <| zF) ?_
              refine kx [(9, (vin 4))] [] (zM <| zE (oAd 4 (hr := by decide)) <| zM <| zZ) ?_
              refine pwp_again (SimImp.refl _) ?_
              refine pwp_seq <| pwp_seq <| kx [(43, (vb false))] [] (zM <| zE (oBk false oLt) <| zZ) ?_
              refine pwp_cond (b := false) (by kernel_rfl) (fun h => by cases h) (fun _ => ?_)
              refine pwp_exit <| pwp_seq <| pwp_sim (publish (t := 8) (k := 2) (es := List.map enc_i64 [(smallI (z0.fdiv d)), (smallI (z1.fdiv d)), (smallI (z2.fdiv d)), (smallI (z3.fdiv d))]) rfl rfl (pub_cells _ _ (fun _ => rfl)) (map_len _ _ rfl) (pub_take _ _ (fun _ => rfl) rfl)) ?_
              refine kd [(3, (vin 0))] [(0, some (bx (encQuat (RQuat.mk (smallI (z0.fdiv d)) (smallI (z1.fdiv d)) (smallI (z2.fdiv d)) (smallI (z3.fdiv d))))))] mo (wM <| wE (oXs el60 0) <| wE (oC1 sh3) <| wM <| wE (oXs el60 1) <| wE (oC1 sh3) <| wM <| wE (oXs el60 2) <| wE (oC1 sh3) <| wM <| wE (oXs el60 3) <| wE (oC1 sh3) <| wE (oBd pl28 ze28 zo28) <| wT (oSt sh28) <| wM <| wZ) ?_
              refine pwp_ret ⟨_, (res_a (cs := (bx (encQuat (RQuat.mk (smallI (z0.fdiv d)) (smallI (z1.fdiv d)) (smallI (z2.fdiv d)) (smallI (z3.fdiv d)))))) (d := (encQuat (RQuat.mk (smallI (z0.fdiv d)) (smallI (z1.fdiv d)) (smallI (z2.fdiv d)) (smallI (z3.fdiv d))))) rfl rfl sh28 rfl rfl (.tmp (d := (.val (.int .i64 (((0 : Nat) : Int))))) rfl .nil)), ?_⟩
              obtain ⟨q1, q2⟩ := prim_y (q := (RQuat.mk z0 z1 z2 z3)) hd ((smB_eq _).symm.trans h7) ((smB_eq _).symm.trans h10) ((smB_eq _).symm.trans h13) ((smB_eq _).symm.trans h16)
              rw [q1, q2]; rfl
end Go.Proofs.YtihgdjljnaekmaaGreat
