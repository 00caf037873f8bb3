/- Part 26 of a proof: rules, plain facts, and functions walked. -/
import Derived.Test.YtihgdjljnaekmaaGreatM22
import Derived.Test.YtihgdjljnaekmaaGreatM23
import Derived.Test.YtihgdjljnaekmaaGreatM12
import Derived.Test.YtihgdjljnaekmaaGreatM25
namespace Go.Proofs.YtihgdjljnaekmaaGreat
open Go.Fid
set_option maxRecDepth 4000
set_option linter.unusedVariables false
set_option linter.unusedSimpArgs false
theorem ar179 : arrB Tryz.prog 179 = some (4, 49, 2) := by kernel_rfl
theorem cb121 : callB Tryz.prog 121 = true := by kernel_rfl
theorem cb145 : callB Tryz.prog 145 = true := by kernel_rfl
theorem in3 : intB Tryz.prog 3 = some .i64 := by kernel_rfl
theorem sh179 : shapeB Tryz.prog 179 = some (true, 8) := by kernel_rfl
theorem ze4 : zeroB Tryz.prog 4 = some [.bool false] := by kernel_rfl
theorem zo4 : ZOk [.bool false] [.val (.bool false)] := by simp [ZOk, Value.oneCell']
theorem l_small (z : Int) (hz : IOk (ofZ z) z 10000001) : Takes Tryz.prog 121 [(encI (ofZ z))] (.tup [(.val (.int .i64 ((smallI z)))), (.val (.bool ((fits64 z))))]) := by
  have hzl := hz.l
  refine fn_intro Tryz.func121 rfl cb121 rfl ?_
  show PWp _ _ _ _ ⟨[(0, (.d (encI (ofZ z))))], []⟩
  refine pwp_seq <| kx [(1, (.ref 0 0)), (2, (.ref 1 0)), (3, (.ref 2 0))] [(0, some (bx (encI (ofZ z)))), (1, some (bx (.val (.int .i64 (0))))), (2, some (bx (.val (.bool (false)))))] (zN (oBx 0) <| zN (oAl 1 ze3 zo3) <| zN (oAl 2 ze4 zo4) <| zZ) ?_
  refine pwp_seq <| kx [(4, (vl 135 1 enc_u32 (grpI (ofZ z))))] [] (zR (oLa sh49) <| zE (oCl (t_groups (ofZ z) (by omega))) <| zM <| zZ) ?_
  refine pwp_seq <| pwp_seq <| kx [(12, (vb (decide (3 < (((grpI (ofZ z)).length : Nat) : Int)))))] [] (zM <| zE (oLm el47 (L := (grpI (ofZ z)))) <| zE oGt <| zZ) ?_
  refine pwp_cond rfl (fun h1 => ?_) (fun h1 => ?_)
  · replace h1 := of_decide_eq_true h1
    refine pwp_seq <| kx [] [(1, some (bx (.val (.int .i64 (0))))), (2, some (bx (.val (.bool (false)))))] (zT (oSt sh3) <| zT (oSt sh4) <| zZ) ?_
    refine pwp_ret ⟨_, (res_1 (cs := (bx (.val (.int .i64 (0))))) (d := (.val (.int .i64 (0)))) rfl rfl sh3 rfl rfl (res_1 (cs := (bx (.val (.bool (false))))) (d := (.val (.bool (false)))) rfl rfl sh4 rfl rfl .nil)), ?_⟩
    have hz0 := gz_long (z := z) (by omega)
    rw [smallI_f (fits64_f hz0), fits64_f hz0]; rfl
  · replace h1 := of_decide_eq_false h1
    have h3 : (grpI (ofZ z)).length ≤ 3 := by omega
    refine pwp_skip <| pwp_seq <| kx [(5, (.ref 3 0))] [(3, some (bx (.val (.int .u64 (0)))))] (zN (oAl 3 ze180 zo180) <| zT (oSt sh180) <| zZ) ?_
    refine pwp_seq <| pwp_backL backs cb158 rfl 7 enc_u32 (grpI (ofZ z)) 0 (fun n => ⟨[(1, (.ref 0 0)), (2, (.ref 1 0)), (3, (.ref 2 0)), (4, (vl 135 1 enc_u32 (grpI (ofZ z)))), (5, (.ref 3 0))], [(0, some (bx (encI (ofZ z)))), (1, some (bx (.val (.int .i64 (0))))), (2, some (bx (.val (.bool (false))))), (3, some (bx (.val (.int .u64 (((n : Nat) : Int))))))]⟩) (fun (j : Nat) n => n = val ((grpI (ofZ z)).drop ((grpI (ofZ z)).length - j)) ∧ n ≤ 9223372036854775808) 0 rfl rfl rfl rfl rfl rfl rfl rfl rfl rfl rfl rfl (fun _ => rfl) (fun _ => rfl) wk ⟨by simp [val], by decide⟩ (by omega) ?_ ?_
    · rintro rl j n hj ⟨hn, hb⟩
      have hd := (gz_dig z).getD ((grpI (ofZ z)).length - 1 - j)
      have hrm := gz_room (z := z) (j := j) (n := n)
      refine kx [(7, (vwn ((grpI (ofZ z)).getD ((grpI (ofZ z)).length - 1 - j) 0)))] [] (zM <| zZ) ?_
      refine pwp_block <| pwp_seq <| pwp_seq <| kx [(22, (vb (decide ((((9223372036854775808 - ((grpI (ofZ z)).getD ((grpI (ofZ z)).length - 1 - j) 0)) / 1000000000 : Nat) : Int) < ((n : Nat) : Int)))))] [] (zR (oL1 sh180) <| zM <| zE (oCv un135 in180 ((grpI (ofZ z)).getD ((grpI (ofZ z)).length - 1 - j) 0)) <| zE (oSb (9223372036854775808 - ((grpI (ofZ z)).getD ((grpI (ofZ z)).length - 1 - j) 0)) (hr := by exact (wu64 (by omega) (by omega) (by omega)))) <| zE (oQu ((9223372036854775808 - ((grpI (ofZ z)).getD ((grpI (ofZ z)).length - 1 - j) 0)) / 1000000000) (hr := by exact (quo_u64 (9223372036854775808 - ((grpI (ofZ z)).getD ((grpI (ofZ z)).length - 1 - j) 0)) 1000000000 (by omega)))) <| zE oGt <| zZ) ?_
      refine pwp_cond rfl (fun h2 => ?_) (fun h2 => ?_)
      · replace h2 := of_decide_eq_true h2
        refine pwp_seq <| kx [] [(1, some (bx (.val (.int .i64 (0))))), (2, some (bx (.val (.bool (false)))))] (zT (oSt sh3) <| zT (oSt sh4) <| zZ) ?_
        refine pwp_ret ⟨⟨[(2, (.ref 1 0)), (3, (.ref 2 0))], [(1, some (bx (.val (.int .i64 (0))))), (2, some (bx (.val (.bool (false)))))]⟩, wk, keys_of rfl, ⟨_, (res_1 (cs := (bx (.val (.int .i64 (0))))) (d := (.val (.int .i64 (0)))) rfl rfl sh3 rfl rfl (res_1 (cs := (bx (.val (.bool (false))))) (d := (.val (.bool (false)))) rfl rfl sh4 rfl rfl .nil)), ?_⟩⟩
        have hz0 := gz_over hj hn (by omega)
        rw [smallI_f (fits64_f hz0), fits64_f hz0]; rfl
      · replace h2 := of_decide_eq_false h2
        refine pwp_skip <| kx [] [(3, some (bx (.val (.int .u64 (((((n * 1000000000) + ((grpI (ofZ z)).getD ((grpI (ofZ z)).length - 1 - j) 0)) : Nat) : Int))))))] (zR (oL1 sh180) <| zE (oMl (n * 1000000000)) <| zM <| zE (oCv un135 in180 ((grpI (ofZ z)).getD ((grpI (ofZ z)).length - 1 - j) 0)) <| zE (oAd ((n * 1000000000) + ((grpI (ofZ z)).getD ((grpI (ofZ z)).length - 1 - j) 0))) <| zT (oSt sh180) <| zZ) ?_
        exact ⟨n * 1000000000 + ((grpI (ofZ z)).getD ((grpI (ofZ z)).length - 1 - j) 0), wk, ⟨gz_step hj hn, hrm (by omega)⟩⟩
    · rintro n ⟨hn, hb⟩
      have hz1 := gz_end hn
      refine pwp_seq <| pwp_block <| pwp_seq <| kx [(28, (vb (decide (0 < (((grpI (ofZ z)).length : Nat) : Int)) && (ofZ z).neg)))] [] ?_ ?_
      · refine zM <| zE (oLm el47 (L := (grpI (ofZ z)))) <| zE oGt <| zE (oV (vb (decide (0 < (((grpI (ofZ z)).length : Nat) : Int)))) (mv_ok (by kernel_rfl))) <| ?_
        rcases hb3 : (decide (0 < (((grpI (ofZ z)).length : Nat) : Int))) with _ | _
        · replace hb3 := of_decide_eq_false hb3
          exact zK <| zK <| zE oPf <| zM <| zZ
        · replace hb3 := of_decide_eq_true hb3
          exact zE (oFr fo49_0) <| zR (oL1 sh4) <| zE oPa <| zM <| zZ
      refine pwp_cond rfl (fun h4 => ?_) (fun h4 => ?_)
      · refine pwp_seq <| kx [] [(1, some (bx (.val (.int .i64 ((-((n : Nat) : Int))))))), (2, some (bx (.val (.bool (true)))))] (zR (oL1 sh180) <| zE (oNg (((18446744073709551616 - n) % 18446744073709551616 : Nat) : Int) (hr := by exact (negu64 hb))) <| zE (zCv un180 in3 (-((n : Nat) : Int)) (hr := by exact (negi64 hb))) <| zT (oSt sh3) <| zT (oSt sh4) <| zZ) ?_
        refine pwp_ret ⟨_, (res_1 (cs := (bx (.val (.int .i64 ((-((n : Nat) : Int))))))) (d := (.val (.int .i64 ((-((n : Nat) : Int)))))) rfl rfl sh3 rfl rfl (res_1 (cs := (bx (.val (.bool (true))))) (d := (.val (.bool (true)))) rfl rfl sh4 rfl rfl .nil)), ?_⟩
        obtain ⟨q1, q2⟩ := sm_n hz1 hb (sm_neg h4)
        rw [q1, q2]; rfl
      · refine pwp_seq <| kx [(39, (vb (((n : Nat) : Int) == 9223372036854775808)))] [] (zR (oL1 sh180) <| zE oEq <| zM <| zZ) ?_
        refine pwp_cond rfl (fun h5 => ?_) (fun h5 => ?_)
        · replace h5 := eq_of_beq h5
          refine pwp_seq <| kx [] [(1, some (bx (.val (.int .i64 (0))))), (2, some (bx (.val (.bool (false)))))] (zT (oSt sh3) <| zT (oSt sh4) <| zZ) ?_
          refine pwp_ret ⟨_, (res_1 (cs := (bx (.val (.int .i64 (0))))) (d := (.val (.int .i64 (0)))) rfl rfl sh3 rfl rfl (res_1 (cs := (bx (.val (.bool (false))))) (d := (.val (.bool (false)))) rfl rfl sh4 rfl rfl .nil)), ?_⟩
          obtain ⟨q1, q2⟩ := sm_x (z := z) (by have := sm_pos h4; omega)
          rw [q1, q2]; rfl
        · replace h5 := ne_of_beq_false h5
          refine pwp_skip <| pwp_seq <| kx [] [(1, some (bx (.val (.int .i64 (((n : Nat) : Int)))))), (2, some (bx (.val (.bool (true)))))] (zR (oL1 sh180) <| zE (oCv un180 in3 n) <| zT (oSt sh3) <| zT (oSt sh4) <| zZ) ?_
          refine pwp_ret ⟨_, (res_1 (cs := (bx (.val (.int .i64 (((n : Nat) : Int)))))) (d := (.val (.int .i64 (((n : Nat) : Int))))) rfl rfl sh3 rfl rfl (res_1 (cs := (bx (.val (.bool (true))))) (d := (.val (.bool (true)))) rfl rfl sh4 rfl rfl .nil)), ?_⟩
          obtain ⟨q1, q2⟩ := sm_p hz1 (by omega) (sm_pos h4)
          rw [q1, q2]; rfl
theorem l_prim (z0 z1 z2 z3 : Int) (hz0 : IOk (ofZ z0) z0 4) (hz1 : IOk (ofZ z1) z1 4) (hz2 : IOk (ofZ z2) z2 4) (hz3 : IOk (ofZ z3) z3 4) (hnz : Qnz (RQuat.mk z0 z1 z2 z3)) : Takes Tryz.prog 145 [(encA179 (A4.mk (ofZ z0) (ofZ z1) (ofZ z2) (ofZ z3)))] (.tup [(encQuat (qV (RQuat.mk z0 z1 z2 z3))), (.val (.int .i64 ((((qC (RQuat.mk z0 z1 z2 z3)) : Nat) : Int))))]) := by
  have hln := q4_len hz0 hz1 hz2 hz3
  have hgI := gcd_iok hln
  have hgn := gcd_n hnz
  let y3 := (encA179 (A4.mk (ofZ z0) (ofZ z1) (ofZ z2) (ofZ z3)))
  let y2 := (bx y3)
  let y1 := (bx (encI (ofZ ((Int.gcd (((Int.gcd (((Int.gcd (((Int.gcd 0 z0 : Nat) : Int)) z1 : Nat) : Int)) z2 : Nat) : Int)) z3 : Nat) : Int))))
  refine fn_intro Tryz.func145 rfl cb145 rfl ?_
  show PWp _ _ _ _ ⟨[(0, (.d y3))], []⟩
  refine pwp_seq <| kx [(1, (.ref 0 0)), (2, (.ref 1 0))] [(0, some y2), (1, some (bx (encQuat (RQuat.mk 0 0 0 0))))] (zN (oBx 0) <| zN (oAl 1 ze28 zo28) <| zM <| zZ) ?_
  refine pwp_seq <| kx [(4, (.ref 2 0)), (5, (.ref 3 0))] [(2, some (bx (encI (RInt.mk false [])))), (3, some (bx (encI (RInt.mk false []))))] (zN (oAl 2 ze49 zo49) <| zN (oAl 3 ze49 zo49) <| zZ) ?_
  refine pwp_meet (α := Int × Int) (fun (g, f) => ⟨[(1, (.ref 0 0)), (2, (.ref 1 0)), (4, (.ref 2 0)), (5, (.ref 3 0))], [(0, some y2), (1, some (bx (encQuat (RQuat.mk 0 0 0 0)))), (2, some (bx (encI (ofZ g)))), (3, some (bx (encI (ofZ f))))]⟩) (fun (g, f) => g = ((gcdL (qL (RQuat.mk z0 z1 z2 z3)) : Nat) : Int) ∧ f = fstL (qL (RQuat.mk z0 z1 z2 z3))) ?_ ?_
  · refine pwp_seq <| kx [(16, (.d y3)), (17, (vin 0))] [] (zR (oLa sh179) <| zM <| zZ) ?_
    refine pwp_block <| pwp_rounds 20 ?_
    refine pwp_round <| pwp_seq <| kx [(18, (vb true))] [] (zE (oBk true oLt) <| zZ) ?_
    refine pwp_seq <| pwp_cond (b := true) (by kernel_rfl) (fun _ => ?_) (fun h => by cases h)
    refine pwp_skip <| pwp_seq <| pwp_block <| pwp_seq <| kx [(7, (.ref 4 0))] [(4, some (bx (encI (ofZ z0))))] (zE (oXa ar179 sh49 (fun h => by cases h) 0) <| zN (oAl 4 ze49 zo49) <| zT (oSt sh49) <| zZ) ?_
    refine pwp_seq <| kx [] [(2, some (bx (encI (ofZ ((Int.gcd 0 z0 : Nat) : Int)))))] (zR (oLa sh49) <| zR (oLa sh49) <| zE (oCl (s_gcd iok_zero hz0 (by decide) (by decide))) <| zT (oSt sh49) <| zZ) ?_
    refine pwp_seq <| kx [(25, (vb true))] [] (zR (oLa sh49) <| zE (oCl (s_sign iok_zero (by decide))) <| zE (oBk true oEq (by exact beq_iff_eq.2 rfl)) <| zZ) ?_
    refine pwp_cond (b := true) (by kernel_rfl) (fun _ => ?_) (fun h => by cases h)
    refine kx [] [(3, some (bx (encI (ofZ z0))))] (zR (oLa sh49) <| zT (oSt sh49) <| zZ) ?_
    refine kx [(17, (vin 1))] [] (zE (oAd 1 (hr := by decide)) <| zM <| zZ) ?_
    refine pwp_again (SimImp.refl _) ?_
    refine pwp_seq <| kx [(18, (vb true))] [] (zE (oBk true oLt) <| zZ) ?_
    refine pwp_seq <| pwp_cond (b := true) (by kernel_rfl) (fun _ => ?_) (fun h => by cases h)
    refine pwp_skip <| pwp_seq <| pwp_block <| pwp_seq <| kx [(7, (.ref 5 0))] [(5, some (bx (encI (ofZ z1))))] (zE (oXa ar179 sh49 (fun h => by cases h) 1) <| zN (oAl 5 ze49 zo49) <| zT (oSt sh49) <| zZ) ?_
    refine pwp_seq <| kx [] [(2, some (bx (encI (ofZ ((Int.gcd (((Int.gcd 0 z0 : Nat) : Int)) z1 : Nat) : Int)))))] (zR (oLa sh49) <| zR (oLa sh49) <| zE (oCl (s_gcd (iok_gcd (k := 4) iok_zero hz0 (by decide)) hz1 (by decide) (by decide))) <| zT (oSt sh49) <| zZ) ?_
    refine pwp_seq <| kx [(25, (vb ((signI z0) == ((0 : Nat) : Int))))] [] (zR (oLa sh49) <| zE (oCl (s_sign hz0 (by decide))) <| zE oEq <| zZ) ?_
    refine pwp_cond (b := ((signI z0) == ((0 : Nat) : Int))) rfl (fun h1 => ?_) (fun h1 => ?_)
    · replace h1 := eq_of_beq h1
      refine kx [] [(3, some (bx (encI (ofZ z1))))] (zR (oLa sh49) <| zT (oSt sh49) <| zZ) ?_
      refine pwp_sim (wk (l := [(1, (.ref 0 0)), (2, (.ref 1 0)), (4, (.ref 2 0)), (5, (.ref 3 0)), (16, (.d y3)), (17, (vin 1))]) (b := [(0, some y2), (1, some (bx (encQuat (RQuat.mk 0 0 0 0)))), (2, some (bx (encI (ofZ ((Int.gcd (((Int.gcd 0 z0 : Nat) : Int)) z1 : Nat) : Int))))), (3, some (bx (encI (ofZ z1))))])) ?_
      refine kx [(17, (vin 2))] [] (zE (oAd 2 (hr := by decide)) <| zM <| zZ) ?_
      refine pwp_again (SimImp.refl _) ?_
      refine pwp_seq <| kx [(18, (vb true))] [] (zE (oBk true oLt) <| zZ) ?_
      refine pwp_seq <| pwp_cond (b := true) (by kernel_rfl) (fun _ => ?_) (fun h => by cases h)
      refine pwp_skip <| pwp_seq <| pwp_block <| pwp_seq <| kx [(7, (.ref 6 0))] [(6, some (bx (encI (ofZ z2))))] (zE (oXa ar179 sh49 (fun h => by cases h) 2) <| zN (oAl 6 ze49 zo49) <| zT (oSt sh49) <| zZ) ?_
      refine pwp_seq <| kx [] [(2, some (bx (encI (ofZ ((Int.gcd (((Int.gcd (((Int.gcd 0 z0 : Nat) : Int)) z1 : Nat) : Int)) z2 : Nat) : Int)))))] (zR (oLa sh49) <| zR (oLa sh49) <| zE (oCl (s_gcd (iok_gcd (k := 4) (iok_gcd (k := 4) iok_zero hz0 (by decide)) hz1 (by decide)) hz2 (by decide) (by decide))) <| zT (oSt sh49) <| zZ) ?_
      refine pwp_seq <| kx [(25, (vb ((signI z1) == ((0 : Nat) : Int))))] [] (zR (oLa sh49) <| zE (oCl (s_sign hz1 (by decide))) <| zE oEq <| zZ) ?_
      refine pwp_cond (b := ((signI z1) == ((0 : Nat) : Int))) rfl (fun h2 => ?_) (fun h2 => ?_)
      · replace h2 := eq_of_beq h2
        refine kx [] [(3, some (bx (encI (ofZ z2))))] (zR (oLa sh49) <| zT (oSt sh49) <| zZ) ?_
        refine kx [(17, (vin 3))] [] (zE (oAd 3 (hr := by decide)) <| zM <| zZ) ?_
        refine pwp_again (SimImp.refl _) ?_
        refine pwp_seq <| kx [(18, (vb true))] [] (zE (oBk true oLt) <| zZ) ?_
        refine pwp_seq <| pwp_cond (b := true) (by kernel_rfl) (fun _ => ?_) (fun h => by cases h)
        refine pwp_skip <| pwp_seq <| pwp_block <| pwp_seq <| kx [(7, (.ref 7 0))] [(7, some (bx (encI (ofZ z3))))] (zE (oXa ar179 sh49 (fun h => by cases h) 3) <| zN (oAl 7 ze49 zo49) <| zT (oSt sh49) <| zZ) ?_
        refine pwp_seq <| kx [] [(2, some y1)] (zR (oLa sh49) <| zR (oLa sh49) <| zE (oCl (s_gcd (iok_gcd (k := 4) (iok_gcd (k := 4) (iok_gcd (k := 4) iok_zero hz0 (by decide)) hz1 (by decide)) hz2 (by decide)) hz3 (by decide) (by decide))) <| zT (oSt sh49) <| zZ) ?_
        refine pwp_seq <| kx [(25, (vb ((signI z2) == ((0 : Nat) : Int))))] [] (zR (oLa sh49) <| zE (oCl (s_sign hz2 (by decide))) <| zE oEq <| zZ) ?_
        refine pwp_cond (b := ((signI z2) == ((0 : Nat) : Int))) rfl (fun h3 => ?_) (fun h3 => ?_)
        · replace h3 := eq_of_beq h3
          refine kx [] [(3, some (bx (encI (ofZ z3))))] (zR (oLa sh49) <| zT (oSt sh49) <| zZ) ?_
          refine kx [(17, (vin 4))] [] (zE (oAd 4 (hr := by decide)) <| zM <| zZ) ?_
          refine pwp_again (SimImp.refl _) ?_
          refine pwp_seq <| kx [(18, (vb false))] [] (zE (oBk false oLt) <| zZ) ?_
          refine pwp_seq <| pwp_cond (b := false) (by kernel_rfl) (fun h => by cases h) (fun _ => ?_)
          refine pwp_exit ?_
          exact met (((Int.gcd ((Int.gcd ((Int.gcd ((Int.gcd 0 z0 : Nat) : Int) z1 : Nat) : Int) z2 : Nat) : Int) z3 : Nat) : Int), z3) wk (⟨rfl, fst_3 h1 h2 h3⟩)
        · replace h3 := ne_of_beq_false h3
          refine pwp_skip <| kx [(17, (vin 4))] [] (zE (oAd 4 (hr := by decide)) <| zM <| zZ) ?_
          refine pwp_again (SimImp.refl _) ?_
          refine pwp_seq <| kx [(18, (vb false))] [] (zE (oBk false oLt) <| zZ) ?_
          refine pwp_seq <| pwp_cond (b := false) (by kernel_rfl) (fun h => by cases h) (fun _ => ?_)
          refine pwp_exit ?_
          exact met (((Int.gcd ((Int.gcd ((Int.gcd ((Int.gcd 0 z0 : Nat) : Int) z1 : Nat) : Int) z2 : Nat) : Int) z3 : Nat) : Int), z2) wk (⟨rfl, fst_2 h1 h2 h3⟩)
      · replace h2 := ne_of_beq_false h2
        refine pwp_skip <| kx [(17, (vin 3))] [] (zE (oAd 3 (hr := by decide)) <| zM <| zZ) ?_
        refine pwp_again (SimImp.refl _) ?_
        refine pwp_seq <| kx [(18, (vb true))] [] (zE (oBk true oLt) <| zZ) ?_
        refine pwp_seq <| pwp_cond (b := true) (by kernel_rfl) (fun _ => ?_) (fun h => by cases h)
        refine pwp_skip <| pwp_seq <| pwp_block <| pwp_seq <| kx [(7, (.ref 8 0))] [(8, some (bx (encI (ofZ z3))))] (zE (oXa ar179 sh49 (fun h => by cases h) 3) <| zN (oAl 8 ze49 zo49) <| zT (oSt sh49) <| zZ) ?_
        refine pwp_seq <| kx [] [(2, some y1)] (zR (oLa sh49) <| zR (oLa sh49) <| zE (oCl (s_gcd (iok_gcd (k := 4) (iok_gcd (k := 4) (iok_gcd (k := 4) iok_zero hz0 (by decide)) hz1 (by decide)) hz2 (by decide)) hz3 (by decide) (by decide))) <| zT (oSt sh49) <| zZ) ?_
        refine pwp_seq <| kx [(25, (vb false))] [] (zR (oLa sh49) <| zE (oCl (s_sign hz1 (by decide))) <| zE (oBk false oEq (by exact beq_eq_false_iff_ne.2 h2)) <| zZ) ?_
        refine pwp_cond (b := false) (by kernel_rfl) (fun h => by cases h) (fun _ => ?_)
        refine pwp_skip <| kx [(17, (vin 4))] [] (zE (oAd 4 (hr := by decide)) <| zM <| zZ) ?_
        refine pwp_again (SimImp.refl _) ?_
        refine pwp_seq <| kx [(18, (vb false))] [] (zE (oBk false oLt) <| zZ) ?_
        refine pwp_seq <| pwp_cond (b := false) (by kernel_rfl) (fun h => by cases h) (fun _ => ?_)
        refine pwp_exit ?_
        exact met (((Int.gcd ((Int.gcd ((Int.gcd ((Int.gcd 0 z0 : Nat) : Int) z1 : Nat) : Int) z2 : Nat) : Int) z3 : Nat) : Int), z1) wk (⟨rfl, fst_1 h1 h2⟩)
    · replace h1 := ne_of_beq_false h1
      refine pwp_skip <| kx [(17, (vin 2))] [] (zE (oAd 2 (hr := by decide)) <| zM <| zZ) ?_
      refine pwp_again (SimImp.refl _) ?_
      refine pwp_seq <| pwp_sim (wk (l := [(1, (.ref 0 0)), (2, (.ref 1 0)), (4, (.ref 2 0)), (5, (.ref 3 0)), (16, (.d y3)), (17, (vin 2))]) (b := [(0, some y2), (1, some (bx (encQuat (RQuat.mk 0 0 0 0)))), (2, some (bx (encI (ofZ ((Int.gcd (((Int.gcd 0 z0 : Nat) : Int)) z1 : Nat) : Int))))), (3, some (bx (encI (ofZ z0))))])) ?_
      refine kx [(18, (vb true))] [] (zE (oBk true oLt) <| zZ) ?_
      refine pwp_seq <| pwp_cond (b := true) (by kernel_rfl) (fun _ => ?_) (fun h => by cases h)
      refine pwp_skip <| pwp_seq <| pwp_block <| pwp_seq <| kx [(7, (.ref 9 0))] [(9, some (bx (encI (ofZ z2))))] (zE (oXa ar179 sh49 (fun h => by cases h) 2) <| zN (oAl 9 ze49 zo49) <| zT (oSt sh49) <| zZ) ?_
      refine pwp_seq <| kx [] [(2, some (bx (encI (ofZ ((Int.gcd (((Int.gcd (((Int.gcd 0 z0 : Nat) : Int)) z1 : Nat) : Int)) z2 : Nat) : Int)))))] (zR (oLa sh49) <| zR (oLa sh49) <| zE (oCl (s_gcd (iok_gcd (k := 4) (iok_gcd (k := 4) iok_zero hz0 (by decide)) hz1 (by decide)) hz2 (by decide) (by decide))) <| zT (oSt sh49) <| zZ) ?_
      refine pwp_seq <| kx [(25, (vb false))] [] (zR (oLa sh49) <| zE (oCl (s_sign hz0 (by decide))) <| zE (oBk false oEq (by exact beq_eq_false_iff_ne.2 h1)) <| zZ) ?_
      refine pwp_cond (b := false) (by kernel_rfl) (fun h => by cases h) (fun _ => ?_)
      refine pwp_skip <| kx [(17, (vin 3))] [] (zE (oAd 3 (hr := by decide)) <| zM <| zZ) ?_
      refine pwp_again (SimImp.refl _) ?_
      refine pwp_seq <| kx [(18, (vb true))] [] (zE (oBk true oLt) <| zZ) ?_
      refine pwp_seq <| pwp_cond (b := true) (by kernel_rfl) (fun _ => ?_) (fun h => by cases h)
      refine pwp_skip <| pwp_seq <| pwp_block <| pwp_seq <| kx [(7, (.ref 10 0))] [(10, some (bx (encI (ofZ z3))))] (zE (oXa ar179 sh49 (fun h => by cases h) 3) <| zN (oAl 10 ze49 zo49) <| zT (oSt sh49) <| zZ) ?_
      refine pwp_seq <| kx [] [(2, some y1)] (zR (oLa sh49) <| zR (oLa sh49) <| zE (oCl (s_gcd (iok_gcd (k := 4) (iok_gcd (k := 4) (iok_gcd (k := 4) iok_zero hz0 (by decide)) hz1 (by decide)) hz2 (by decide)) hz3 (by decide) (by decide))) <| zT (oSt sh49) <| zZ) ?_
      refine pwp_seq <| kx [(25, (vb false))] [] (zR (oLa sh49) <| zE (oCl (s_sign hz0 (by decide))) <| zE (oBk false oEq (by exact beq_eq_false_iff_ne.2 h1)) <| zZ) ?_
      refine pwp_cond (b := false) (by kernel_rfl) (fun h => by cases h) (fun _ => ?_)
      refine pwp_skip <| kx [(17, (vin 4))] [] (zE (oAd 4 (hr := by decide)) <| zM <| zZ) ?_
      refine pwp_again (SimImp.refl _) ?_
      refine pwp_seq <| kx [(18, (vb false))] [] (zE (oBk false oLt) <| zZ) ?_
      refine pwp_seq <| pwp_cond (b := false) (by kernel_rfl) (fun h => by cases h) (fun _ => ?_)
      refine pwp_exit ?_
      exact met (((Int.gcd ((Int.gcd ((Int.gcd ((Int.gcd 0 z0 : Nat) : Int) z1 : Nat) : Int) z2 : Nat) : Int) z3 : Nat) : Int), z0) wk (⟨rfl, fst_0 h1⟩)
  · rintro ⟨g, f⟩ ⟨hg, hf⟩
    have hfI := fst_iok hf hln
    rw [← hg] at hgI hgn
    refine pwp_meet (α := Int) (fun d => ⟨[(1, (.ref 0 0)), (2, (.ref 1 0)), (4, (.ref 2 0))], [(0, some y2), (1, some (bx (encQuat (RQuat.mk 0 0 0 0)))), (2, some (bx (encI (ofZ d))))]⟩) (fun d => dvL (qL (RQuat.mk z0 z1 z2 z3)) = d) ?_ ?_
    · refine pwp_seq <| kx [(30, (vb (decide ((signI f) < ((0 : Nat) : Int)))))] [] (zR (oLa sh49) <| zE (oCl (s_sign hfI (by decide))) <| zE oLt <| zZ) ?_
      refine pwp_cond (b := decide ((signI f) < ((0 : Nat) : Int))) rfl (fun h4 => ?_) (fun h4 => ?_)
      · replace h4 := of_decide_eq_true h4
        refine kx [] [(2, some (bx (encI (ofZ (-g)))))] (zR (oLa sh49) <| zE (oCl (s_neg hgI (by decide))) <| zT (oSt sh49) <| zZ) ?_
        exact met (-g) wk (by rw [hg]; exact dv_n hf h4)
      · replace h4 := of_decide_eq_false h4
        refine pwp_skip ?_
        exact met g wk (by rw [hg]; exact dv_p hf h4)
    · rintro d hd
      have hdI : IOk (ofZ d) d 4 := by rw [← hd]; exact iok_of (dvL_len hln)
      have hdn : d ≠ 0 := by rw [← hd]; exact dvL_ne hnz
      refine pwp_seq <| kx [(8, (.ref 11 0))] [(11, some (bx (encA146 (A4.mk 0 0 0 0))))] (zN (oAl 11 ze146 zo146) <| zZ) ?_
      refine pwp_seq <| pwp_seq <| kx [(33, (.d y3)), (34, (vin 0))] [] (zR (oLa sh179) <| zM <| zZ) ?_
      refine pwp_block <| pwp_rounds 20 ?_
      refine pwp_round <| pwp_seq <| kx [(35, (vb true))] [] (zE (oBk true oLt) <| zZ) ?_
      refine pwp_seq <| pwp_cond (b := true) (by kernel_rfl) (fun _ => ?_) (fun h => by cases h)
      refine pwp_skip <| pwp_seq <| pwp_block <| pwp_seq <| kx [(9, (vin 0)), (10, (.ref 12 0))] [(12, some (bx (encI (ofZ z0))))] (zM <| zE (oXa ar179 sh49 (fun h => by cases h) 0) <| zN (oAl 12 ze49 zo49) <| zM <| zT (oSt sh49) <| zZ) ?_
      refine pwp_seq <| kx [(11, (.ref 13 0))] [(13, some (bx (encI (ofZ (z0.fdiv d))))), (14, none)] (zR (oLa sh49) <| zR (oLa sh49) <| zE (oCl (s_divide hz0 hdI (by decide) (by decide) hdn)) <| zM <| zE oEx <| zE oEx <| zE oEx <| zN (oAl 13 ze49 zo49) <| zN (oAl 14 ze49 zo49) <| zT (oSt sh49) <| zT (oSt sh49) <| zM <| zZ) ?_
      refine pwp_seq <| kx [(14, (vi (smallI (z0.fdiv d)))), (15, (vb (fits64 (z0.fdiv d))))] [] (zR (oLa sh49) <| zE (oCl (l_small (z0.fdiv d) (iok_up (iok_fdiv (k := 5) hz0 hdI (by decide)) (by decide)))) <| zM <| zE oEx <| zE oEx <| zM <| zM <| zZ) ?_
      refine pwp_seq <| pwp_seq <| kx [(59, (vb ((!(fits64 (z0.fdiv d)) || decide ((smallI (z0.fdiv d)) < -1048576)) || decide (((1048576 : Nat) : Int) < (smallI (z0.fdiv d))))))] [] ?_ ?_
      · refine zM <| zE oNt <| zE (oV (vb (!(fits64 (z0.fdiv d)))) (mv_ok (by kernel_rfl))) <| ?_
        rcases hb5 : (!(fits64 (z0.fdiv d))) with _ | _
        · refine zM <| zE oLt <| zE oPo <| zE (oV (vb (false || decide ((smallI (z0.fdiv d)) < -1048576))) (mv_ok (by kernel_rfl))) <| ?_
          rcases hb6 : (false || decide ((smallI (z0.fdiv d)) < -1048576)) with _ | _
          · replace hb6 := of_decide_eq_false (p := ((smallI (z0.fdiv d)) < -1048576)) hb6
            exact zM <| zE oGt <| zE oPo <| zZ
          · replace hb6 := of_decide_eq_true (p := ((smallI (z0.fdiv d)) < -1048576)) hb6
            exact zK <| zK <| zE oPt <| zZ
        · exact zK <| zK <| zE oPt <| zM <| zK <| zK <| zE oPt <| zZ
      refine pwp_cond rfl (fun h7 => ?_) (fun h7 => ?_)
      · refine pwp_seq <| kx [(3, (vin 3))] [(1, some (bx (encQuat (RQuat.mk 0 0 0 0))))] (zE (oBd pl28 ze28 zo28) <| zT (oSt sh28) <| zM <| zZ) ?_
        refine pwp_ret ⟨_, (res_a (cs := (bx (encQuat (RQuat.mk 0 0 0 0)))) (d := (encQuat (RQuat.mk 0 0 0 0))) rfl rfl sh28 rfl rfl (.tmp (d := (.val (.int .i64 (((3 : Nat) : Int))))) rfl .nil)), ?_⟩
        obtain ⟨q1, q2⟩ := prim_n (q := (RQuat.mk z0 z1 z2 z3)) hd (x := z0) (.inl rfl) h7
        rw [q1, q2]; rfl
      · refine pwp_skip <| kx [] [(11, some (bx (encA146 (A4.mk (smallI (z0.fdiv d)) 0 0 0))))] (zM <| zM <| zE (oXr ar146 0) <| zT (oSt sh3) <| zZ) ?_
        refine kx [(34, (vin 1))] [] (zE (oAd 1 (hr := by decide)) <| zM <| zZ) ?_
        refine pwp_again (SimImp.refl _) ?_
        refine pwp_seq <| kx [(35, (vb true))] [] (zE (oBk true oLt) <| zZ) ?_
        refine pwp_seq <| pwp_cond (b := true) (by kernel_rfl) (fun _ => ?_) (fun h => by cases h)
        refine pwp_skip <| pwp_seq <| pwp_block <| pwp_seq <| kx [(9, (vin 1)), (10, (.ref 15 0))] [(15, some (bx (encI (ofZ z1))))] (zM <| zE (oXa ar179 sh49 (fun h => by cases h) 1) <| zN (oAl 15 ze49 zo49) <| zM <| zT (oSt sh49) <| zZ) ?_
        refine pwp_seq <| kx [(11, (.ref 16 0))] [(16, some (bx (encI (ofZ (z1.fdiv d))))), (17, none)] (zR (oLa sh49) <| zR (oLa sh49) <| zE (oCl (s_divide hz1 hdI (by decide) (by decide) hdn)) <| zM <| zE oEx <| zE oEx <| zE oEx <| zN (oAl 16 ze49 zo49) <| zN (oAl 17 ze49 zo49) <| zT (oSt sh49) <| zT (oSt sh49) <| zM <| zZ) ?_
        refine pwp_seq <| kx [(14, (vi (smallI (z1.fdiv d)))), (15, (vb (fits64 (z1.fdiv d))))] [] (zR (oLa sh49) <| zE (oCl (l_small (z1.fdiv d) (iok_up (iok_fdiv (k := 5) hz1 hdI (by decide)) (by decide)))) <| zM <| zE oEx <| zE oEx <| zM <| zM <| zZ) ?_
        refine pwp_seq <| pwp_seq <| kx [(59, (vb ((!(fits64 (z1.fdiv d)) || decide ((smallI (z1.fdiv d)) < -1048576)) || decide (((1048576 : Nat) : Int) < (smallI (z1.fdiv d))))))] [] ?_ ?_
        · refine zM <| zE oNt <| zE (oV (vb (!(fits64 (z1.fdiv d)))) (mv_ok (by kernel_rfl))) <| ?_
          rcases hb8 : (!(fits64 (z1.fdiv d))) with _ | _
          · refine zM <| zE oLt <| zE oPo <| zE (oV (vb (false || decide ((smallI (z1.fdiv d)) < -1048576))) (mv_ok (by kernel_rfl))) <| ?_
            rcases hb9 : (false || decide ((smallI (z1.fdiv d)) < -1048576)) with _ | _
            · replace hb9 := of_decide_eq_false (p := ((smallI (z1.fdiv d)) < -1048576)) hb9
              exact zM <| zE oGt <| zE oPo <| zZ
            · replace hb9 := of_decide_eq_true (p := ((smallI (z1.fdiv d)) < -1048576)) hb9
              exact zK <| zK <| zE oPt <| zZ
          · exact zK <| zK <| zE oPt <| zM <| zK <| zK <| zE oPt <| zZ
        refine pwp_cond rfl (fun h10 => ?_) (fun h10 => ?_)
        · refine pwp_seq <| pwp_sim (wk (l := [(2, (.ref 1 0)), (4, (.ref 2 0)), (8, (.ref 11 0)), (9, (vin 1)), (14, (vi (smallI (z1.fdiv d)))), (33, (.d y3)), (34, (vin 1)), (59, (vb ((!(fits64 (z1.fdiv d)) || decide ((smallI (z1.fdiv d)) < -1048576)) || decide (((1048576 : Nat) : Int) < (smallI (z1.fdiv d))))))]) (b := [(1, some (bx (encQuat (RQuat.mk 0 0 0 0)))), (11, some (bx (encA146 (A4.mk (smallI (z0.fdiv d)) 0 0 0)))), (2, some (bx (encI (ofZ d))))])) ?_
          refine kx [(3, (vin 3))] [(1, some (bx (encQuat (RQuat.mk 0 0 0 0))))] (zE (oBd pl28 ze28 zo28) <| zT (oSt sh28) <| zM <| zZ) ?_
          refine pwp_ret ⟨_, (res_a (cs := (bx (encQuat (RQuat.mk 0 0 0 0)))) (d := (encQuat (RQuat.mk 0 0 0 0))) rfl rfl sh28 rfl rfl (.tmp (d := (.val (.int .i64 (((3 : Nat) : Int))))) rfl .nil)), ?_⟩
          obtain ⟨q1, q2⟩ := prim_n (q := (RQuat.mk z0 z1 z2 z3)) hd (x := z1) (.inr (.inl rfl)) h10
          rw [q1, q2]; rfl
        · refine pwp_skip <| pwp_sim (wk (l := [(2, (.ref 1 0)), (4, (.ref 2 0)), (8, (.ref 11 0)), (9, (vin 1)), (14, (vi (smallI (z1.fdiv d)))), (33, (.d y3)), (34, (vin 1)), (59, (vb ((!(fits64 (z1.fdiv d)) || decide ((smallI (z1.fdiv d)) < -1048576)) || decide (((1048576 : Nat) : Int) < (smallI (z1.fdiv d))))))]) (b := [(1, some (bx (encQuat (RQuat.mk 0 0 0 0)))), (11, some (bx (encA146 (A4.mk (smallI (z0.fdiv d)) 0 0 0)))), (2, some (bx (encI (ofZ d))))])) ?_
          refine kx [] [(11, some (bx (encA146 (A4.mk (smallI (z0.fdiv d)) (smallI (z1.fdiv d)) 0 0))))] (zM <| zM <| zE (oXr ar146 1) <| zT (oSt sh3) <| zZ) ?_
          refine kx [(34, (vin 2))] [] (zE (oAd 2 (hr := by decide)) <| zM <| zZ) ?_
          refine pwp_again (SimImp.refl _) ?_
          refine pwp_seq <| kx [(35, (vb true))] [] (zE (oBk true oLt) <| zZ) ?_
          refine pwp_seq <| pwp_cond (b := true) (by kernel_rfl) (fun _ => ?_) (fun h => by cases h)
          refine pwp_skip <| pwp_seq <| pwp_block <| pwp_seq <| kx [(9, (vin 2)), (10, (.ref 18 0))] [(18, some (bx (encI (ofZ z2))))] (zM <| zE (oXa ar179 sh49 (fun h => by cases h) 2) <| zN (oAl 18 ze49 zo49) <| zM <| zT (oSt sh49) <| zZ) ?_
          refine pwp_seq <| kx [(11, (.ref 19 0))] [(19, some (bx (encI (ofZ (z2.fdiv d))))), (20, none)] (zR (oLa sh49) <| zR (oLa sh49) <| zE (oCl (s_divide hz2 hdI (by decide) (by decide) hdn)) <| zM <| zE oEx <| zE oEx <| zE oEx <| zN (oAl 19 ze49 zo49) <| zN (oAl 20 ze49 zo49) <| zT (oSt sh49) <| zT (oSt sh49) <| zM <| zZ) ?_
          refine pwp_seq <| kx [(14, (vi (smallI (z2.fdiv d)))), (15, (vb (fits64 (z2.fdiv d))))] [] (zR (oLa sh49) <| zE (oCl (l_small (z2.fdiv d) (iok_up (iok_fdiv (k := 5) hz2 hdI (by decide)) (by decide)))) <| zM <| zE oEx <| zE oEx <| zM <| zM <| zZ) ?_
          refine pwp_seq <| pwp_seq <| kx [(59, (vb ((!(fits64 (z2.fdiv d)) || decide ((smallI (z2.fdiv d)) < -1048576)) || decide (((1048576 : Nat) : Int) < (smallI (z2.fdiv d))))))] [] ?_ ?_
          · refine zM <| zE oNt <| zE (oV (vb (!(fits64 (z2.fdiv d)))) (mv_ok (by kernel_rfl))) <| ?_
            rcases hb11 : (!(fits64 (z2.fdiv d))) with _ | _
            · refine zM <| zE oLt <| zE oPo <| zE (oV (vb (false || decide ((smallI (z2.fdiv d)) < -1048576))) (mv_ok (by kernel_rfl))) <| ?_
              rcases hb12 : (false || decide ((smallI (z2.fdiv d)) < -1048576)) with _ | _
              · replace hb12 := of_decide_eq_false (p := ((smallI (z2.fdiv d)) < -1048576)) hb12
                exact zM <| zE oGt <| zE oPo <| zZ
              · replace hb12 := of_decide_eq_true (p := ((smallI (z2.fdiv d)) < -1048576)) hb12
                exact zK <| zK <| zE oPt <| zZ
            · exact zK <| zK <| zE oPt <| zM <| zK <| zK <| zE oPt <| zZ
          refine pwp_cond rfl (fun h13 => ?_) (fun h13 => ?_)
          · refine pwp_seq <| kx [(3, (vin 3))] [(1, some (bx (encQuat (RQuat.mk 0 0 0 0))))] (zE (oBd pl28 ze28 zo28) <| zT (oSt sh28) <| zM <| zZ) ?_
            refine pwp_ret ⟨_, (res_a (cs := (bx (encQuat (RQuat.mk 0 0 0 0)))) (d := (encQuat (RQuat.mk 0 0 0 0))) rfl rfl sh28 rfl rfl (.tmp (d := (.val (.int .i64 (((3 : Nat) : Int))))) rfl .nil)), ?_⟩
            obtain ⟨q1, q2⟩ := prim_n (q := (RQuat.mk z0 z1 z2 z3)) hd (x := z2) (.inr (.inr (.inl rfl))) h13
            rw [q1, q2]; rfl
          · refine pwp_skip <| kx [] [(11, some (bx (encA146 (A4.mk (smallI (z0.fdiv d)) (smallI (z1.fdiv d)) (smallI (z2.fdiv d)) 0))))] (zM <| zM <| zE (oXr ar146 2) <| zT (oSt sh3) <| zZ) ?_
            refine kx [(34, (vin 3))] [] (zE (oAd 3 (hr := by decide)) <| zM <| zZ) ?_
            refine pwp_again (SimImp.refl _) ?_
            refine pwp_seq <| kx [(35, (vb true))] [] (zE (oBk true oLt) <| zZ) ?_
            refine pwp_seq <| pwp_cond (b := true) (by kernel_rfl) (fun _ => ?_) (fun h => by cases h)
            refine pwp_skip <| pwp_seq <| pwp_block <| pwp_seq <| kx [(9, (vin 3)), (10, (.ref 21 0))] [(21, some (bx (encI (ofZ z3))))] (zM <| zE (oXa ar179 sh49 (fun h => by cases h) 3) <| zN (oAl 21 ze49 zo49) <| zM <| zT (oSt sh49) <| zZ) ?_
            refine pwp_seq <| kx [(11, (.ref 22 0))] [(22, some (bx (encI (ofZ (z3.fdiv d))))), (23, none)] (zR (oLa sh49) <| zR (oLa sh49) <| zE (oCl (s_divide hz3 hdI (by decide) (by decide) hdn)) <| zM <| zE oEx <| zE oEx <| zE oEx <| zN (oAl 22 ze49 zo49) <| zN (oAl 23 ze49 zo49) <| zT (oSt sh49) <| zT (oSt sh49) <| zM <| zZ) ?_
            refine pwp_seq <| kx [(14, (vi (smallI (z3.fdiv d)))), (15, (vb (fits64 (z3.fdiv d))))] [] (zR (oLa sh49) <| zE (oCl (l_small (z3.fdiv d) (iok_up (iok_fdiv (k := 5) hz3 hdI (by decide)) (by decide)))) <| zM <| zE oEx <| zE oEx <| zM <| zM <| zZ) ?_
            refine pwp_seq <| pwp_seq <| kx [(59, (vb ((!(fits64 (z3.fdiv d)) || decide ((smallI (z3.fdiv d)) < -1048576)) || decide (((1048576 : Nat) : Int) < (smallI (z3.fdiv d))))))] [] ?_ ?_
            · refine zM <| zE oNt <| zE (oV (vb (!(fits64 (z3.fdiv d)))) (mv_ok (by kernel_rfl))) <| ?_
              rcases hb14 : (!(fits64 (z3.fdiv d))) with _ | _
              · refine zM <| zE oLt <| zE oPo <| zE (oV (vb (false || decide ((smallI (z3.fdiv d)) < -1048576))) (mv_ok (by kernel_rfl))) <| ?_
                rcases hb15 : (false || decide ((smallI (z3.fdiv d)) < -1048576)) with _ | _
                · replace hb15 := of_decide_eq_false (p := ((smallI (z3.fdiv d)) < -1048576)) hb15
                  exact zM <| zE oGt <| zE oPo <| zZ
                · replace hb15 := of_decide_eq_true (p := ((smallI (z3.fdiv d)) < -1048576)) hb15
                  exact zK <| zK <| zE oPt <| zZ
              · exact zK <| zK <| zE oPt <| zM <| zK <| zK <| zE oPt <| zZ
            refine pwp_cond rfl (fun h16 => ?_) (fun h16 => ?_)
            · refine pwp_seq <| pwp_sim (wk (l := [(2, (.ref 1 0)), (4, (.ref 2 0)), (8, (.ref 11 0)), (9, (vin 3)), (14, (vi (smallI (z3.fdiv d)))), (33, (.d y3)), (34, (vin 3)), (59, (vb ((!(fits64 (z3.fdiv d)) || decide ((smallI (z3.fdiv d)) < -1048576)) || decide (((1048576 : Nat) : Int) < (smallI (z3.fdiv d))))))]) (b := [(1, some (bx (encQuat (RQuat.mk 0 0 0 0)))), (11, some (bx (encA146 (A4.mk (smallI (z0.fdiv d)) (smallI (z1.fdiv d)) (smallI (z2.fdiv d)) 0)))), (2, some (bx (encI (ofZ d))))])) ?_
              refine kx [(3, (vin 3))] [(1, some (bx (encQuat (RQuat.mk 0 0 0 0))))] (zE (oBd pl28 ze28 zo28) <| zT (oSt sh28) <| zM <| zZ) ?_
              refine pwp_ret ⟨_, (res_a (cs := (bx (encQuat (RQuat.mk 0 0 0 0)))) (d := (encQuat (RQuat.mk 0 0 0 0))) rfl rfl sh28 rfl rfl (.tmp (d := (.val (.int .i64 (((3 : Nat) : Int))))) rfl .nil)), ?_⟩
              obtain ⟨q1, q2⟩ := prim_n (q := (RQuat.mk z0 z1 z2 z3)) hd (x := z3) (.inr (.inr (.inr rfl))) h16
              rw [q1, q2]; rfl
            · refine pwp_skip <| pwp_sim (wk (l := [(2, (.ref 1 0)), (4, (.ref 2 0)), (8, (.ref 11 0)), (9, (vin 3)), (14, (vi (smallI (z3.fdiv d)))), (33, (.d y3)), (34, (vin 3)), (59, (vb ((!(fits64 (z3.fdiv d)) || decide ((smallI (z3.fdiv d)) < -1048576)) || decide (((1048576 : Nat) : Int) < (smallI (z3.fdiv d))))))]) (b := [(1, some (bx (encQuat (RQuat.mk 0 0 0 0)))), (11, some (bx (encA146 (A4.mk (smallI (z0.fdiv d)) (smallI (z1.fdiv d)) (smallI (z2.fdiv d)) 0)))), (2, some (bx (encI (ofZ d))))])) ?_
              refine kx [] [(11, some (bx (encA146 (A4.mk (smallI (z0.fdiv d)) (smallI (z1.fdiv d)) (smallI (z2.fdiv d)) (smallI (z3.fdiv d))))))] (zM <| zM <| zE (oXr ar146 3) <| zT (oSt sh3) <| zZ) ?_
              refine kx [(34, (vin 4))] [] (zE (oAd 4 (hr := by decide)) <| zM <| zZ) ?_
              refine pwp_again (SimImp.refl _) ?_
              refine pwp_seq <| kx [(35, (vb false))] [] (zE (oBk false oLt) <| zZ) ?_
              refine pwp_seq <| pwp_cond (b := false) (by kernel_rfl) (fun h => by cases h) (fun _ => ?_)
              refine pwp_exit <| pwp_seq <| kx [(3, (vin 0))] [(1, some (bx (encQuat (RQuat.mk (smallI (z0.fdiv d)) (smallI (z1.fdiv d)) (smallI (z2.fdiv d)) (smallI (z3.fdiv d))))))] (zE (oXr ar146 0) <| zR (oL1 sh3) <| zE (oXr ar146 1) <| zR (oL1 sh3) <| zE (oXr ar146 2) <| zR (oL1 sh3) <| zE (oXr ar146 3) <| zR (oL1 sh3) <| zE (oBd pl28 ze28 zo28) <| zT (oSt sh28) <| zM <| zZ) ?_
              refine pwp_ret ⟨_, (res_a (cs := (bx (encQuat (RQuat.mk (smallI (z0.fdiv d)) (smallI (z1.fdiv d)) (smallI (z2.fdiv d)) (smallI (z3.fdiv d)))))) (d := (encQuat (RQuat.mk (smallI (z0.fdiv d)) (smallI (z1.fdiv d)) (smallI (z2.fdiv d)) (smallI (z3.fdiv d))))) rfl rfl sh28 rfl rfl (.tmp (d := (.val (.int .i64 (((0 : Nat) : Int))))) rfl .nil)), ?_⟩
              obtain ⟨q1, q2⟩ := prim_y (q := (RQuat.mk z0 z1 z2 z3)) hd h7 h10 h13 h16
              rw [q1, q2]; rfl
end Go.Proofs.YtihgdjljnaekmaaGreat
