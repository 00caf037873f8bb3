/- Part 38 of a proof: rules, plain facts, and functions walked. -/
import Derived.Test.YtihgdjljnaekmaaGreatM37
import Derived.Test.YtihgdjljnaekmaaGreatM31
import Derived.OpenShut
import Derived.Test.YtihgdjljnaekmaaGreatM6
import Derived.ChangeArms
import Derived.SizedLaws
namespace Go.Proofs.YtihgdjljnaekmaaGreat
open Go.Fid
set_option maxRecDepth 4000
set_option linter.unusedVariables false
set_option linter.unusedSimpArgs false
theorem cb20 : callB Tryz.prog 20 = true := by kernel_rfl
theorem cb21 : callB Tryz.prog 21 = true := by kernel_rfl
theorem cb34 : callB Tryz.prog 34 = true := by kernel_rfl
theorem cb69 : callB Tryz.prog 69 = true := by kernel_rfl
theorem pl56 : placesB Tryz.prog 56 = some [(0, 1), (1, 1), (2, 4)] := by kernel_rfl
def exE : List REdge := [REdge.mk 0 1 (RQuat.mk 1 0 0 1), REdge.mk 1 2 (RQuat.mk 1 1 0 0), REdge.mk 0 2 (RQuat.mk 1 1 0 0)]
def fewB (z : Int) (es : List REdge) : Bool := decide (((es.length : Nat) : Int) ≤ 12) && (decide (z ≤ 8) || decide (64 < z))
theorem few_len {z : Int} {es : List REdge} (h : fewB z es = true) : es.length ≤ 12 := by
  unfold fewB at h; rw [Bool.and_eq_true, decide_eq_true_eq] at h; omega
def brB (x : RRat) : Bool := if (decide (1 < ((x.num.gs.length : Nat) : Int)) || decide (1 < ((x.den.gs.length : Nat) : Int))) = true then false else
  ((((x.num.gs.length : Nat) : Int) == 0) || decide (((x.num.gs.getD 0 0 : Nat) : Int) < 100000)) && ((((x.den.gs.length : Nat) : Int) == 0) || decide (((x.den.gs.getD 0 0 : Nat) : Int) ≤ 100))
theorem br_ok {x : RRat} (h : brB x = true) : QOk x (toQ x) 1000 := by
  unfold brB at h
  split at h
  · cases h
  · rename_i h1
    simp only [Bool.or_eq_true, decide_eq_true_eq, not_or] at h1
    exact qok_raw (by decide) (by omega) (by omega)
theorem l_few (z : Int) (es : List REdge) : Takes Tryz.prog 21 [(.val (.int .i64 (z))), (.sl 56 6 (List.map encEdge es))] (.val (.bool ((fewB z es)))) := by
  refine fn_intro Tryz.func21 rfl cb21 rfl ?_
  show PWp _ _ _ _ ⟨[(0, (vi z)), (1, (vl 56 6 encEdge es))], []⟩
  refine pwp_seq <| kx [] [] (zM <| zZ) ?_
  refine pwp_seq <| kx [(4, (vb (decide (((es.length : Nat) : Int) ≤ 12) && (decide (z ≤ 8) || decide (64 < z)))))] [] ?_ ?_
  · refine zM <| zE (oLm el39) <| zE oLe <| zE (oV (vb (decide (((es.length : Nat) : Int) ≤ 12))) (mv_ok (by kernel_rfl))) <| ?_
    rcases hb1 : (decide (((es.length : Nat) : Int) ≤ 12)) with _ | _
    · replace hb1 := of_decide_eq_false hb1
      exact zK <| zK <| zK <| zK <| zK <| zK <| zE oPf <| zM <| zZ
    · replace hb1 := of_decide_eq_true hb1
      refine zM <| zE oLe <| zE (oV (vb (decide (z ≤ 8))) (mv_ok (by kernel_rfl))) <| ?_
      rcases hb2 : (decide (z ≤ 8)) with _ | _
      · replace hb2 := of_decide_eq_false hb2
        exact zM <| zE oGt <| zE oPo <| zE oPa <| zM <| zZ
      · replace hb2 := of_decide_eq_true hb2
        exact zK <| zK <| zE oPt <| zE oPt <| zM <| zZ
  refine pwp_ret ⟨_, (.tmp (d := (.val (.bool ((decide (((es.length : Nat) : Int) ≤ 12) && (decide (z ≤ 8) || decide (64 < z))))))) rfl .nil), ?_⟩
  rfl
theorem l_exa  : Takes Tryz.prog 69 [] (.sl 56 6 (List.map encEdge exE)) := by
  refine fn_intro Tryz.func69 rfl cb69 rfl ?_
  show PWp _ _ _ _ ⟨[], []⟩
  refine pwp_seq <| kx [] [] (zE (oNl 56 6) <| zZ) ?_
  refine pwp_seq <| kx [(0, (vl 56 6 encEdge [(REdge.mk 0 1 (RQuat.mk 1 0 0 1)), (REdge.mk 1 2 (RQuat.mk 1 1 0 0)), (REdge.mk 0 2 (RQuat.mk 1 1 0 0))]))] [] (zE (oBd pl28 ze28 zo28) <| zE (oBd pl56 ze56 zo56) <| zE (oBd pl28 ze28 zo28) <| zE (oBd pl56 ze56 zo56) <| zE (oBd pl28 ze28 zo28) <| zE (oBd pl56 ze56 zo56) <| zE (oBs el39 ze56 zo56) <| zM <| zZ) ?_
  refine pwp_ret ⟨_, (.tmp (d := (.sl 56 6 (List.map encEdge [(REdge.mk 0 1 (RQuat.mk 1 0 0 1)), (REdge.mk 1 2 (RQuat.mk 1 1 0 0)), (REdge.mk 0 2 (RQuat.mk 1 1 0 0))]))) rfl .nil), ?_⟩
  rfl
theorem g_brief (x : RRat) (p : Rat) (hx : QOk x p 140737488355328) : Takes Tryz.prog 34 [(encR x)] (.val (.bool ((brB x)))) := by
  refine fn_intro Tryz.func34 rfl cb34 rfl ?_
  show PWp _ _ _ _ ⟨[(0, (.d (encR x)))], []⟩
  refine pwp_seq <| kx [(1, (.ref 0 0))] [(0, some (bx (encR x)))] (zN (oBx 0) <| zM <| zZ) ?_
  refine pwp_seq <| kd [(3, (vl 135 1 enc_u32 x.num.gs)), (4, (vl 135 1 enc_u32 x.den.gs))] [] mo (wE (oFr fo51_0) <| wE (oFr fo49_1) <| wR (oL1 sh47) <| wE (oFr fo51_1) <| wE (oFr fo49_1) <| wR (oL1 sh47) <| wM <| wM <| wZ) ?_
  refine pwp_seq <| pwp_seq <| kx [(18, (vb (decide (1 < ((x.num.gs.length : Nat) : Int)) || decide (1 < ((x.den.gs.length : Nat) : Int)))))] [] ?_ ?_
  · refine zM <| zE (oLm el47) <| zE oGt <| zE (oV (vb (decide (1 < ((x.num.gs.length : Nat) : Int)))) (mv_ok (by kernel_rfl))) <| ?_
    rcases hb1 : (decide (1 < ((x.num.gs.length : Nat) : Int))) with _ | _
    · replace hb1 := of_decide_eq_false hb1
      exact zM <| zE (oLm el47) <| zE oGt <| zE oPo <| zZ
    · replace hb1 := of_decide_eq_true hb1
      exact zK <| zK <| zK <| zE oPt <| zZ
  refine pwp_cond rfl (fun h2 => ?_) (fun h2 => ?_)
  · refine pwp_seq <| kx [(2, (vb false))] [] (zM <| zZ) ?_
    refine pwp_ret ⟨_, (.tmp (d := (.val (.bool (false)))) rfl .nil), ?_⟩
    unfold brB; rw [if_pos h2]; rfl
  · refine pwp_skip <| pwp_seq <| kx [(2, (vb (((((x.num.gs.length : Nat) : Int) == 0) || decide ((((x.num.gs.getD 0 0) : Nat) : Int) < 100000)) && ((((x.den.gs.length : Nat) : Int) == 0) || decide ((((x.den.gs.getD 0 0) : Nat) : Int) ≤ 100)))))] [] ?_ ?_
    · refine zM <| zE (oLm el47) <| zE oEq <| zE (oV (vb (((x.num.gs.length : Nat) : Int) == 0)) (mv_ok (by kernel_rfl))) <| ?_
      rcases hb3 : (((x.num.gs.length : Nat) : Int) == 0) with _ | _
      · replace hb3 := ne_of_beq_false hb3
        refine zM <| zE (oXl el47 0 (0 : Nat)) <| zE (oC1 sh135) <| zE oLt <| zE oPo <| zE (oV (vb (false || decide ((((x.num.gs.getD 0 0) : Nat) : Int) < 100000))) (mv_ok (by kernel_rfl))) <| ?_
        rcases hb4 : (false || decide ((((x.num.gs.getD 0 0) : Nat) : Int) < 100000)) with _ | _
        · exact zK <| zK <| zK <| zK <| zK <| zK <| zK <| zK <| zK <| zE oPf <| zM <| zZ
        · refine zM <| zE (oLm el47) <| zE oEq <| zE (oV (vb (((x.den.gs.length : Nat) : Int) == 0)) (mv_ok (by kernel_rfl))) <| ?_
          rcases hb5 : (((x.den.gs.length : Nat) : Int) == 0) with _ | _
          · replace hb5 := ne_of_beq_false hb5
            exact zM <| zE (oXl el47 0 (0 : Nat)) <| zE (oC1 sh135) <| zE oLe <| zE oPo <| zE oPa <| zM <| zZ
          · replace hb5 := eq_of_beq hb5
            exact zK <| zK <| zK <| zK <| zE oPt <| zE oPt <| zM <| zZ
      · replace hb3 := eq_of_beq hb3
        refine zK <| zK <| zK <| zK <| zE oPt <| zM <| zM <| zE (oLm el47) <| zE oEq <| zE (oV (vb (((x.den.gs.length : Nat) : Int) == 0)) (mv_ok (by kernel_rfl))) <| ?_
        rcases hb6 : (((x.den.gs.length : Nat) : Int) == 0) with _ | _
        · replace hb6 := ne_of_beq_false hb6
          exact zM <| zE (oXl el47 0 (0 : Nat)) <| zE (oC1 sh135) <| zE oLe <| zE oPo <| zE oPa <| zM <| zZ
        · replace hb6 := eq_of_beq hb6
          exact zK <| zK <| zK <| zK <| zE oPt <| zE oPt <| zM <| zZ
    refine pwp_ret ⟨_, (.tmp (d := (.val (.bool ((((((x.num.gs.length : Nat) : Int) == 0) || decide ((((x.num.gs.getD 0 0) : Nat) : Int) < 100000)) && ((((x.den.gs.length : Nat) : Int) == 0) || decide ((((x.den.gs.getD 0 0) : Nat) : Int) ≤ 100))))))) rfl .nil), ?_⟩
    unfold brB; rw [if_neg (by rw [h2]; decide)]; rfl
theorem kn1 : okL (lopC ((3 : Nat) : Int) exE) (treL (Int.toNat ((3 : Nat) : Int)) exE) = [0, 1] := by decide +kernel
theorem kn0 : lopC ((3 : Nat) : Int) exE = 0 := by decide +kernel
theorem kn2 : okL (lopC ((3 : Nat) : Int) exE) (absL (Int.toNat ((3 : Nat) : Int)) exE) = [RQuat.mk 1 0 0 0, RQuat.mk 1 0 0 (-1), RQuat.mk 1 (-1) 1 (-1)] := by decide +kernel
theorem kn3 : okC (lopC ((3 : Nat) : Int) exE) (absC (Int.toNat ((3 : Nat) : Int)) exE) = 0 := by decide +kernel
theorem kn4 : arnV ((3 : Nat) : Int) exE [((0 : Nat) : Int), ((1 : Nat) : Int), -3] = RQuat.mk 1 0 0 1 := by decide +kernel
theorem kn5 : arnC ((3 : Nat) : Int) exE [((0 : Nat) : Int), ((1 : Nat) : Int), -3] = 0 := by decide +kernel
theorem kn8 : okL (lopC ((3 : Nat) : Int) exE) (tris exE) = [(0, 1, 2)] := by decide +kernel
theorem knS : seC exE = 0 := by decide +kernel
theorem kn6s : slB (Rat.divInt 1 3) = false := by decide +kernel
theorem kn6v : selL (vts (Rat.divInt 1 3) exE (tris exE)) = [] := by decide +kernel
theorem kn6b : slC ((3 : Nat) : Int) exE (ofQ (Rat.divInt 1 3)) (Rat.divInt 1 3) = 0 := by
  obtain ⟨q1, q2⟩ := sld_0 (es := exE) (x := ofQ (Rat.divInt 1 3)) (p := (Rat.divInt 1 3)) (validR_ofQ _) kn6s knS
  unfold slC; rw [okC_0 kn0, q1]
theorem kn6 : slV ((3 : Nat) : Int) exE (ofQ (Rat.divInt 1 3)) (Rat.divInt 1 3) = [] := by
  obtain ⟨q1, q2⟩ := sld_0 (es := exE) (x := ofQ (Rat.divInt 1 3)) (p := (Rat.divInt 1 3)) (validR_ofQ _) kn6s knS
  unfold slV; rw [okL_0 kn0, q2, kn6v]
theorem kn7s : slB (Rat.divInt 1 2) = false := by decide +kernel
theorem kn7v : selL (vts (Rat.divInt 1 2) exE (tris exE)) = [0, 1, 2] := by decide +kernel
theorem kn7b : slC ((3 : Nat) : Int) exE (ofQ (Rat.divInt 1 2)) (Rat.divInt 1 2) = 0 := by
  obtain ⟨q1, q2⟩ := sld_0 (es := exE) (x := ofQ (Rat.divInt 1 2)) (p := (Rat.divInt 1 2)) (validR_ofQ _) kn7s knS
  unfold slC; rw [okC_0 kn0, q1]
theorem kn7 : slV ((3 : Nat) : Int) exE (ofQ (Rat.divInt 1 2)) (Rat.divInt 1 2) = [0, 1, 2] := by
  obtain ⟨q1, q2⟩ := sld_0 (es := exE) (x := ofQ (Rat.divInt 1 2)) (p := (Rat.divInt 1 2)) (validR_ofQ _) kn7s knS
  unfold slV; rw [okL_0 kn0, q2, kn7v]
theorem l_known  : Takes Tryz.prog 20 [] (.val (.bool (true))) := by
  refine fn_intro Tryz.func20 rfl cb20 rfl ?_
  show PWp _ _ _ _ ⟨[], []⟩
  refine pwp_seq <| kx [] [] (zM <| zZ) ?_
  refine pwp_seq <| kx [(1, (vl 3 1 enc_i64 [0, 1])), (2, (vin 0))] [] (zE (oCl l_exa) <| zE (oCl (l_Tree ((3 : Nat) : Int) exE (by decide +kernel))) <| zM <| zE (oQd (.sl 3 1 (List.map enc_i64 (okL (lopC ((3 : Nat) : Int) exE) (treL (Int.toNat ((3 : Nat) : Int)) exE)))) (.sl 3 1 (List.map enc_i64 [0, 1])) oEx (by exact (congrArg (fun l => Dat.sl 3 1 (List.map enc_i64 l)) kn1))) <| zE (oQd (.val (.int .i64 ((((lopC ((3 : Nat) : Int) exE) : Nat) : Int)))) (.val (.int .i64 (((0 : Nat) : Int)))) oEx (by exact (congrArg (fun (c : Nat) => Dat.val (Value.int IntKind.i64 ((c : Nat) : Int))) kn0))) <| zM <| zM <| zZ) ?_
  refine pwp_seq <| kx [(3, (vl 28 4 encQuat [RQuat.mk 1 0 0 0, RQuat.mk 1 0 0 (-1), RQuat.mk 1 (-1) 1 (-1)])), (4, (vin 0))] [] (zE (oCl l_exa) <| zE (oCl (l_Abs ((3 : Nat) : Int) exE (by decide +kernel))) <| zM <| zE (oQd (.sl 28 4 (List.map encQuat (okL (lopC ((3 : Nat) : Int) exE) (absL (Int.toNat ((3 : Nat) : Int)) exE)))) (.sl 28 4 (List.map encQuat [RQuat.mk 1 0 0 0, RQuat.mk 1 0 0 (-1), RQuat.mk 1 (-1) 1 (-1)])) oEx (by exact (congrArg (fun l => Dat.sl 28 4 (List.map encQuat l)) kn2))) <| zE (oQd (.val (.int .i64 ((((okC (lopC ((3 : Nat) : Int) exE) (absC (Int.toNat ((3 : Nat) : Int)) exE)) : Nat) : Int)))) (.val (.int .i64 (((0 : Nat) : Int)))) oEx (by exact (congrArg (fun (c : Nat) => Dat.val (Value.int IntKind.i64 ((c : Nat) : Int))) kn3))) <| zM <| zM <| zZ) ?_
  refine pwp_seq <| kx [(5, (.ref 0 0)), (6, (vin 0))] [(0, some (bx (encQuat (RQuat.mk 1 0 0 1))))] (zE (oCl l_exa) <| zE (oBs el60 ze3 zo3) <| zE (oCl (l_arn ((3 : Nat) : Int) exE [((0 : Nat) : Int), ((1 : Nat) : Int), -3] (by decide +kernel) (by decide +kernel))) <| zM <| zE (oQd (encQuat (arnV ((3 : Nat) : Int) exE [((0 : Nat) : Int), ((1 : Nat) : Int), -3])) (encQuat (RQuat.mk 1 0 0 1)) oEx (by exact (congrArg encQuat kn4))) <| zE (oQd (.val (.int .i64 ((((arnC ((3 : Nat) : Int) exE [((0 : Nat) : Int), ((1 : Nat) : Int), -3]) : Nat) : Int)))) (.val (.int .i64 (((0 : Nat) : Int)))) oEx (by exact (congrArg (fun (c : Nat) => Dat.val (Value.int IntKind.i64 ((c : Nat) : Int))) kn5))) <| zN (oAl 0 ze28 zo28) <| zT (oSt sh28) <| zM <| zZ) ?_
  refine pwp_seq ?_
  have bn1 : QL (Rat.divInt 1 3) 3 := (ql_divInt (n := 3) (lenZ_int (by omega) (by omega)) (lenZ_int (by omega) (by omega)) (by decide))
  refine kx [(7, (.ref 1 0))] [(1, some (bx (encR (ofQ (Rat.divInt 1 3)))))] (zE (oCl (qs_of ((1 : Nat) : Int) (by omega) (by omega) ((3 : Nat) : Int) (by omega) (by omega) (by decide +kernel))) <| zM <| zE oEx <| zE oEx <| zN (oAl 1 ze51 zo51) <| zT (oSt sh51) <| zM <| zZ) ?_
  refine pwp_seq ?_
  have bn2 : QL (Rat.divInt 1 2) 3 := (ql_divInt (n := 3) (lenZ_int (by omega) (by omega)) (lenZ_int (by omega) (by omega)) (by decide))
  refine kx [(9, (.ref 2 0))] [(2, some (bx (encR (ofQ (Rat.divInt 1 2)))))] (zE (oCl (qs_of ((1 : Nat) : Int) (by omega) (by omega) ((2 : Nat) : Int) (by omega) (by omega) (by decide +kernel))) <| zM <| zE oEx <| zE oEx <| zN (oAl 2 ze51 zo51) <| zT (oSt sh51) <| zM <| zZ) ?_
  refine pwp_seq <| kd [(11, (vl 3 1 enc_i64 [])), (12, (vin 0))] [] mo (wE (oCl l_exa) <| wR (oLa sh51) <| wE (oCl (l_Sel ((3 : Nat) : Int) exE (ofQ (Rat.divInt 1 3)) (Rat.divInt 1 3) (qok_up (qok_of bn1) (by decide)) (by decide +kernel))) <| wM <| wE (oQd (.sl 3 1 (List.map enc_i64 (slV ((3 : Nat) : Int) exE (ofQ (Rat.divInt 1 3)) (Rat.divInt 1 3)))) (.sl 3 1 (List.map enc_i64 [])) oEx (by exact (congrArg (fun l => Dat.sl 3 1 (List.map enc_i64 l)) kn6))) <| wE (oQd (.val (.int .i64 ((((slC ((3 : Nat) : Int) exE (ofQ (Rat.divInt 1 3)) (Rat.divInt 1 3)) : Nat) : Int)))) (.val (.int .i64 (((0 : Nat) : Int)))) oEx (by exact (congrArg (fun (c : Nat) => Dat.val (Value.int IntKind.i64 ((c : Nat) : Int))) kn6b))) <| wM <| wM <| wZ) ?_
  refine pwp_seq <| kd [(13, (vl 3 1 enc_i64 [0, 1, 2])), (14, (vin 0))] [] mo (wE (oCl l_exa) <| wR (oLa sh51) <| wE (oCl (l_Sel ((3 : Nat) : Int) exE (ofQ (Rat.divInt 1 2)) (Rat.divInt 1 2) (qok_up (qok_of bn2) (by decide)) (by decide +kernel))) <| wM <| wE (oQd (.sl 3 1 (List.map enc_i64 (slV ((3 : Nat) : Int) exE (ofQ (Rat.divInt 1 2)) (Rat.divInt 1 2)))) (.sl 3 1 (List.map enc_i64 [0, 1, 2])) oEx (by exact (congrArg (fun l => Dat.sl 3 1 (List.map enc_i64 l)) kn7))) <| wE (oQd (.val (.int .i64 ((((slC ((3 : Nat) : Int) exE (ofQ (Rat.divInt 1 2)) (Rat.divInt 1 2)) : Nat) : Int)))) (.val (.int .i64 (((0 : Nat) : Int)))) oEx (by exact (congrArg (fun (c : Nat) => Dat.val (Value.int IntKind.i64 ((c : Nat) : Int))) kn7b))) <| wM <| wM <| wZ) ?_
  refine pwp_seq <| kx [(15, (vl 70 3 encA70 [A3.mk 0 1 2])), (16, (vin 0))] [] (zE (oCl l_exa) <| zE (oCl (l_Tris ((3 : Nat) : Int) exE (by decide +kernel))) <| zM <| zE (oQd (.sl 70 3 (List.map encA70 (List.map t3 (okL (lopC ((3 : Nat) : Int) exE) (tris exE))))) (.sl 70 3 (List.map encA70 [A3.mk 0 1 2])) oEx (by exact (congrArg (fun l => Dat.sl 70 3 (List.map encA70 (List.map t3 l))) kn8))) <| zE (oQd (.val (.int .i64 ((((lopC ((3 : Nat) : Int) exE) : Nat) : Int)))) (.val (.int .i64 (((0 : Nat) : Int)))) oEx (by exact (congrArg (fun (c : Nat) => Dat.val (Value.int IntKind.i64 ((c : Nat) : Int))) kn0))) <| zM <| zM <| zZ) ?_
  refine pwp_seq <| kx [(0, (vb true))] [] (zM <| zM <| zE (oAd 0 (hr := by decide)) <| zM <| zE (oAd 0 (hr := by decide)) <| zM <| zE (oAd 0 (hr := by decide)) <| zM <| zE (oAd 0 (hr := by decide)) <| zM <| zE (oAd 0 (hr := by decide)) <| zE (oBk true oEq) <| zM <| zM <| zE (oBs el60 ze3 zo3) <| zE (oBk true (oCl (p_eq [0, 1] [((0 : Nat) : Int), ((1 : Nat) : Int)] (by decide +kernel))) (by exact beq_self_eq_true _)) <| zE oPt <| zM <| zM <| zE (oBd pl28 ze28 zo28) <| zE (oBd pl28 ze28 zo28) <| zE (oBd pl28 ze28 zo28) <| zE (oBs el34 ze28 zo28) <| zE (oCl (l_eqQ [RQuat.mk 1 0 0 0, RQuat.mk 1 0 0 (-1), RQuat.mk 1 (-1) 1 (-1)] [(RQuat.mk ((1 : Nat) : Int) 0 0 0), (RQuat.mk ((1 : Nat) : Int) 0 0 (-1)), (RQuat.mk ((1 : Nat) : Int) (-1) ((1 : Nat) : Int) (-1))] (by decide +kernel) rfl)) <| zE oPt <| zM <| zR (oLa sh28) <| zE (oBd pl28 ze28 zo28) <| zE (oBk true (oEs eqs28 .i64 [(RQuat.mk 1 0 0 1).a, (RQuat.mk 1 0 0 1).b, (RQuat.mk 1 0 0 1).c, (RQuat.mk 1 0 0 1).d] [((1 : Nat) : Int), 0, 0, ((1 : Nat) : Int)]) (by exact decide_eq_true rfl)) <| zE oPt <| zM <| zM <| zE (oLn el60 0) <| zE (oBk true oEq) <| zE oPt <| zM <| zM <| zE (oLn el60 3) <| zE (oBk true oEq) <| zE oPt <| zM <| zM <| zE (oBf ar70 ze70 zo70) <| zE (oBs el63 ze70 zo70) <| zE (oCl (l_eqT [A3.mk 0 1 2] [(A3.mk ((0 : Nat) : Int) ((1 : Nat) : Int) ((2 : Nat) : Int))] (by decide +kernel) rfl)) <| zE oPt <| zM <| zZ) ?_
  refine pwp_ret ⟨_, (.tmp (d := (.val (.bool (true)))) rfl .nil), ?_⟩
  rfl
end Go.Proofs.YtihgdjljnaekmaaGreat
set_option linter.unusedVariables false
set_option linter.unusedSimpArgs false
namespace Go.Fid
theorem okL_len {α : Type} (c : Nat) (l : List α) : (okL c l).length ≤ l.length := by unfold okL; split <;> simp
theorem sldV_len {es : List REdge} {x : RRat} {p : Rat} : (sldV es x p).length ≤ es.length := by
  refine Nat.le_trans (okL_len _ _) ?_
  unfold selL; rw [← vts_len p es (tris es)]; exact selU_len _ _
end Go.Fid
namespace Go.Proofs.YtihgdjljnaekmaaGreat
open Go.Fid
set_option maxRecDepth 4000
set_option linter.unusedVariables false
set_option linter.unusedSimpArgs false
theorem cb6 : callB Tryz.prog 6 = true := by kernel_rfl
theorem w_selN (z : Int) (es : List REdge) (x : RRat) (p : Rat) (hx : QOk x p 140737488355328) (hf : fewB z es = false) : Takes Tryz.prog 6 [(.val (.int .i64 (z))), (.sl 56 6 (List.map encEdge es)), (encR x)] (.val (.bool (true))) := by
  refine fn_intro Tryz.func6 rfl cb6 rfl ?_
  show PWp _ _ _ _ ⟨[(0, (vi z)), (1, (vl 56 6 encEdge es)), (2, (.d (encR x)))], []⟩
  refine pwp_seq <| kx [(5, (.ref 0 0))] [(0, some (bx (encR x)))] (zN (oBx 0) <| zM <| zZ) ?_
  refine pwp_seq <| pwp_seq <| kx [(12, (vb false))] [] (zE (oCl l_known) <| zE oNt <| zZ) ?_
  refine pwp_cond (b := false) (by kernel_rfl) (fun h => by cases h) (fun _ => ?_)
  refine pwp_skip <| pwp_seq <| pwp_seq <| kx [(21, (vb true))] [] (zM <| zM <| zE (oBk false (oCl (l_few z es)) (by exact hf)) <| zE oNt <| zM <| zK <| zK <| zK <| zE oPt <| zZ) ?_
  refine pwp_cond (b := true) (by kernel_rfl) (fun _ => ?_) (fun h => by cases h)
  refine pwp_seq <| kx [(6, (vb true))] [] (zM <| zZ) ?_
  refine pwp_ret ⟨_, (.tmp (d := (.val (.bool (true)))) rfl .nil), ?_⟩
  rfl
theorem w_selB (z : Int) (es : List REdge) (x : RRat) (p : Rat) (hx : QOk x p 140737488355328) (hf : fewB z es = true) (hbr : brB x = false) : Takes Tryz.prog 6 [(.val (.int .i64 (z))), (.sl 56 6 (List.map encEdge es)), (encR x)] (.val (.bool (true))) := by
  refine fn_intro Tryz.func6 rfl cb6 rfl ?_
  show PWp _ _ _ _ ⟨[(0, (vi z)), (1, (vl 56 6 encEdge es)), (2, (.d (encR x)))], []⟩
  refine pwp_seq <| kx [(5, (.ref 0 0))] [(0, some (bx (encR x)))] (zN (oBx 0) <| zM <| zZ) ?_
  refine pwp_seq <| pwp_seq <| kx [(12, (vb false))] [] (zE (oCl l_known) <| zE oNt <| zZ) ?_
  refine pwp_cond (b := false) (by kernel_rfl) (fun h => by cases h) (fun _ => ?_)
  refine pwp_skip <| pwp_seq <| pwp_seq <| kx [(21, (vb true))] [] (zM <| zM <| zE (oBk true (oCl (l_few z es)) (by exact hf)) <| zE oNt <| zM <| zR (oLa sh51) <| zE (oBk false (oCl (g_brief x p hx)) (by exact hbr)) <| zE oNt <| zE oPf <| zZ) ?_
  refine pwp_cond (b := true) (by kernel_rfl) (fun _ => ?_) (fun h => by cases h)
  refine pwp_seq <| kx [(6, (vb true))] [] (zM <| zZ) ?_
  refine pwp_ret ⟨_, (.tmp (d := (.val (.bool (true)))) rfl .nil), ?_⟩
  rfl
theorem w_selY (z : Int) (es : List REdge) (x : RRat) (p : Rat) (hx : QOk x p 1000) (hf : fewB z es = true) (hbr : brB x = true) : Takes Tryz.prog 6 [(.val (.int .i64 (z))), (.sl 56 6 (List.map encEdge es)), (encR x)] (.val (.bool (true))) := by
  have hlen := few_len hf
  refine fn_intro Tryz.func6 rfl cb6 rfl ?_
  show PWp _ _ _ _ ⟨[(0, (vi z)), (1, (vl 56 6 encEdge es)), (2, (.d (encR x)))], []⟩
  refine pwp_seq <| kx [(5, (.ref 0 0))] [(0, some (bx (encR x)))] (zN (oBx 0) <| zM <| zZ) ?_
  refine pwp_seq <| pwp_seq <| kx [(12, (vb false))] [] (zE (oCl l_known) <| zE oNt <| zZ) ?_
  refine pwp_cond (b := false) (by kernel_rfl) (fun h => by cases h) (fun _ => ?_)
  refine pwp_skip <| pwp_seq <| pwp_seq <| kx [(21, (vb false))] [] (zM <| zM <| zE (oBk true (oCl (l_few z es)) (by exact hf)) <| zE oNt <| zM <| zR (oLa sh51) <| zE (oBk true (oCl (g_brief x p (qok_up hx (by decide)))) (by exact hbr)) <| zE oNt <| zE oPf <| zZ) ?_
  refine pwp_cond (b := false) (by kernel_rfl) (fun h => by cases h) (fun _ => ?_)
  refine pwp_skip <| pwp_seq <| kx [(7, (vin (lopC z es)))] [] (zM <| zM <| zE (oCl (l8_check z es (by have := few_len hf; omega))) <| zM <| zZ) ?_
  refine pwp_seq <| kx [(8, (vl 3 1 enc_i64 []))] [] (zE (oNl 3 1) <| zZ) ?_
  refine pwp_seq <| pwp_seq <| kx [(26, (vb ((((lopC z es) : Nat) : Int) == 0)))] [] (zM <| zE oEq <| zZ) ?_
  refine pwp_cond (b := ((((lopC z es) : Nat) : Int) == 0)) rfl (fun h1 => ?_) (fun h1 => ?_)
  · replace h1 := eq_of_beq h1
    have hc0 : lopC z es = 0 := by omega
    obtain ⟨hz1, hz2, hl2, heo⟩ := lopC_0 hc0
    have hq : slC z es x p = sldC es x p ∧ slV z es x p = sldV es x p := ⟨okC_0 hc0, okL_0 hc0⟩
    refine kx [(7, (vin (sldC es x p))), (8, (vl 3 1 enc_i64 (sldV es x p)))] [] (zM <| zR (oLa sh51) <| zE (oCl (l8_sel es x p hx z.toNat heo hl2 (by omega))) <| zM <| zE oEx <| zE oEx <| zM <| zM <| zZ) ?_
    refine pwp_seq <| kx [(9, (vl 3 1 enc_i64 (sldV es x p))), (10, (vin (sldC es x p)))] [] (zM <| zM <| zR (oLa sh51) <| zE (oCl (l_Sel z es x p hx (by have := few_len hf; omega))) <| zM <| zE (oQd (.sl 3 1 (List.map enc_i64 (slV z es x p))) (.sl 3 1 (List.map enc_i64 (sldV es x p))) oEx (by exact (congrArg (fun l => Dat.sl 3 1 (List.map enc_i64 l)) hq.2))) <| zE (oQd (.val (.int .i64 ((((slC z es x p) : Nat) : Int)))) (.val (.int .i64 ((((sldC es x p) : Nat) : Int)))) oEx (by exact (congrArg (fun (c : Nat) => Dat.val (Value.int IntKind.i64 ((c : Nat) : Int))) hq.1))) <| zM <| zM <| zZ) ?_
    refine pwp_seq <| kx [(6, (vb true))] [] (zM <| zM <| zE (oBk true oEq (by exact beq_self_eq_true _)) <| zM <| zM <| zM <| zE (oBk true (oCl (p_eq (sldV es x p) (sldV es x p) (by have := sldV_len (es := es) (x := x) (p := p); omega))) (by exact beq_self_eq_true _)) <| zE oPt <| zM <| zZ) ?_
    refine pwp_ret ⟨_, (.tmp (d := (.val (.bool (true)))) rfl .nil), ?_⟩
    rfl
  · replace h1 := ne_of_beq_false h1
    have hq : slC z es x p = lopC z es ∧ slV z es x p = [] := ⟨okC_n (rot_ne h1), okL_n (rot_ne h1)⟩
    refine pwp_skip <| pwp_seq <| kx [(9, (vl 3 1 enc_i64 [])), (10, (vin (lopC z es)))] [] (zM <| zM <| zR (oLa sh51) <| zE (oCl (l_Sel z es x p hx (by have := few_len hf; omega))) <| zM <| zE (oQd (.sl 3 1 (List.map enc_i64 (slV z es x p))) (.sl 3 1 (List.map enc_i64 [])) oEx (by exact (congrArg (fun l => Dat.sl 3 1 (List.map enc_i64 l)) hq.2))) <| zE (oQd (.val (.int .i64 ((((slC z es x p) : Nat) : Int)))) (.val (.int .i64 ((((lopC z es) : Nat) : Int)))) oEx (by exact (congrArg (fun (c : Nat) => Dat.val (Value.int IntKind.i64 ((c : Nat) : Int))) hq.1))) <| zM <| zM <| zZ) ?_
    refine pwp_seq <| kx [(6, (vb true))] [] (zM <| zM <| zE (oBk true oEq (by exact beq_self_eq_true _)) <| zM <| zM <| zM <| zE (oBk true (oCl (p_eq [] [] (Nat.zero_le _))) (by exact beq_self_eq_true _)) <| zE oPt <| zM <| zZ) ?_
    refine pwp_ret ⟨_, (.tmp (d := (.val (.bool (true)))) rfl .nil), ?_⟩
    rfl
end Go.Proofs.YtihgdjljnaekmaaGreat
namespace Go.Fid
set_option linter.unusedVariables false
set_option linter.unusedSimpArgs false
open Go.RowKit (Below)
mutual
inductive Ty where
  | int (k : IntKind)
  | bool
  | sl (E : TypeId) (s : Nat) (e : Ty)
  | st (fs : TyL)
  | ar (n : Nat) (E : TypeId) (fs : TyL)
inductive TyL where
  | nil
  | cons (t : TypeId) (ty : Ty) (r : TyL)
end
mutual
def Ty.size : Ty → Nat
  | .int _ => 1
  | .bool => 1
  | .sl _ _ _ => 1
  | .st fs => fs.size
  | .ar _ _ fs => fs.size
def TyL.size : TyL → Nat
  | .nil => 0
  | .cons _ ty r => ty.size + r.size
end
def fieldsB : List Field → Nat → TyL → Bool
  | [], _, .nil => true
  | f :: l, off, .cons t ty r => Nat.beq f.type t && (Nat.beq f.offset off && fieldsB l (off + ty.size) r)
  | _, _, _ => false
def arFs (E : TypeId) (z : Nat) : Nat → Nat → List Field
  | 0, _ => []
  | n + 1, i => { name := "", type := E, offset := i * z, embedded := false, tag := "", pkgPath := "", byteOffset := 0 } :: arFs E z n (i + 1)
theorem arFs_mem {E : TypeId} {z : Nat} : ∀ {n i : Nat} {f : Field}, f ∈ arFs E z n i → ∃ j, j < n ∧ f.type = E ∧ f.offset = (i + j) * z
  | 0, _, _, h => by cases h
  | n + 1, i, f, h => by
    rcases List.mem_cons.1 h with e | h
    · exact ⟨0, by omega, by rw [e], by rw [e]; rfl⟩
    · obtain ⟨j, h1, h2, h3⟩ := arFs_mem h
      exact ⟨j + 1, by omega, h2, by rw [h3]; congr 1; omega⟩
mutual
def tyB (P : Program) : TypeId → Ty → Bool
  | t, .int k => match P.underlying t with
    | some (.int k') => decide (k' = k)
    | _ => false
  | t, .bool => match P.underlying t with
    | some .bool => true
    | _ => false
  | t, .sl E s e => match P.underlying t with
    | some (.slice E') => Nat.beq E' E && (Nat.beq (P.cellsOf E) s && (Nat.beq e.size s && (Nat.ble 1 s && (Nat.ble 1 (P.bytesOf E) && tyB P E e))))
    | _ => false
  | t, .st fs => match P.underlying t with
    | some (.struct fds) => Nat.beq (P.cellsOf t) fs.size && (fieldsB fds.toList 0 fs && tysB P fs)
    | _ => false
  | t, .ar n E fs => match P.underlying t with
    | some (.array n' E') => Nat.beq n' n && (Nat.beq E' E && (Nat.beq (P.cellsOf t) fs.size && (fieldsB (arFs E (P.cellsOf E) n 0) 0 fs && tysB P fs)))
    | _ => false
def tysB (P : Program) : TyL → Bool
  | .nil => true
  | .cons t ty r => Nat.beq (P.cellsOf t) ty.size && (tyB P t ty && tysB P r)
end
def isSt : Ty → Bool
  | .st _ => true
  | .ar _ _ _ => true
  | _ => false
def mkD (ty : Ty) (ds : List Dat) : Dat := bif isSt ty then .agg ds else ds.headD (.tup [])
mutual
def Sh : Ty → List Dat → Prop
  | .int k, ds => ∃ z, ds = [.val (.int k z)] ∧ (Lit.int k z).wf = true
  | .bool, ds => ∃ b, ds = [.val (.bool b)]
  | .sl E s e, ds => ∃ es : List (List Dat), ds = [.sl E s (es.map (mkD e))] ∧ es.length ≤ 140737488355328 ∧ ∀ x ∈ es, Sh e x
  | .st fs, ds => ShL fs ds
  | .ar _ _ fs, ds => ShL fs ds
def ShL : TyL → List Dat → Prop
  | .nil, ds => ds = []
  | .cons _ ty r, ds => ∃ a b, ds = a ++ b ∧ Sh ty a ∧ ShL r b
end
mutual
theorem Sh.len : ∀ {ty : Ty} {ds : List Dat}, Sh ty ds → ds.length = ty.size
  | .int k, ds, h => by obtain ⟨z, rfl, _⟩ := h; rfl
  | .bool, ds, h => by obtain ⟨b, rfl⟩ := h; rfl
  | .sl E s e, ds, h => by obtain ⟨es, rfl, _⟩ := h; rfl
  | .st fs, ds, h => ShL.len (h : ShL fs ds)
  | .ar _ _ fs, ds, h => ShL.len (h : ShL fs ds)
theorem ShL.len : ∀ {fs : TyL} {ds : List Dat}, ShL fs ds → ds.length = fs.size
  | .nil, ds, h => by have h : ds = [] := h; subst h; rfl
  | .cons t ty r, ds, h => by
    obtain ⟨a, b, rfl, h1, h2⟩ := h
    rw [List.length_append, Sh.len h1, ShL.len h2]; rfl
end
theorem mkD_cells {ty : Ty} {ds : List Dat} (h : Sh ty ds) : (mkD ty ds).cells = ds := by
  cases ty with
  | int k => obtain ⟨z, rfl, _⟩ := h; rfl
  | bool => obtain ⟨b, rfl⟩ := h; rfl
  | sl E s e => obtain ⟨es, rfl, _⟩ := h; rfl
  | st fs => rfl
  | ar n E fs => rfl
def oldD (w : World) : DSet := fun _ g _ => g < w.heap.size
def RepC (w : World) (cs : List Value) (ds : List Dat) : Prop := ds.length = cs.length ∧ (∀ v ∈ cs, v.oneCell' = true) ∧ ∀ (i : Nat) v d, cs[i]? = some v → ds[i]? = some d → Rep w (oldD w) v d
theorem RepC.append {w : World} {cs1 cs2 : List Value} {d1 d2 : List Dat} (h1 : RepC w cs1 d1) (h2 : RepC w cs2 d2) : RepC w (cs1 ++ cs2) (d1 ++ d2) := by
  refine ⟨by rw [List.length_append, List.length_append, h1.1, h2.1], fun v hv => ?_, fun i v d hv hd => ?_⟩
  · rcases List.mem_append.1 hv with h | h
    · exact h1.2.1 v h
    · exact h2.2.1 v h
  · by_cases hi : i < cs1.length
    · rw [List.getElem?_append_left hi] at hv
      rw [List.getElem?_append_left (by rw [h1.1]; exact hi)] at hd
      exact h1.2.2 i v d hv hd
    · rw [List.getElem?_append_right (by omega)] at hv
      rw [List.getElem?_append_right (by rw [h1.1]; omega), h1.1] at hd
      exact h2.2.2 _ v d hv hd
section
variable {H : Type} {enc : TypeId × Value → H} {P : Program} {w : World} {sp : Nat → Bool} {held : Bool}
theorem weightsAll_mem {e : TypeId} : ∀ {l : List (DataW H)} {d : DataW H}, d ∈ l → ∀ {n : Nat}, n ∈ d.weights P e → n ∈ DataW.weightsAll P e l
  | [], _, h, _, _ => by cases h
  | x :: l, d, h, n, hn => by
    simp only [DataW.weightsAll]
    rcases List.mem_cons.1 h with rfl | h
    · exact List.mem_append_left _ hn
    · exact List.mem_append_right _ (weightsAll_mem h hn)
theorem cells_get {a : Addr} {n : Nat} {cs : List Value} (h : w.cells? 0 a n = some cs) : cs.length = n ∧ ∀ i, i < n → w.cell? (a.add i) = cs[i]? := by
  unfold World.cells? at h
  rw [if_pos (Nat.zero_le _)] at h
  refine ⟨by simpa using mapM_some_length h, fun i hi => ?_⟩
  have := mapM_some_get h i i (by simp [hi])
  exact this
theorem drop_take_split {α : Type} {cs : List α} {off n m : Nat} (h : cs.length = off + (n + m)) : cs.drop off = (cs.drop off).take n ++ cs.drop (off + n) := by
  rw [← List.drop_drop, List.take_append_drop]
mutual
theorem bridge : ∀ {ty : Ty} {t : TypeId} {fuel : Nat} {cs : List Value} {x : DataW H × List MemPlace}, tyB P t ty = true → DataW.trod enc P w 0 sp held fuel t cs = some x → (∀ n ∈ x.1.weights P t, n ≤ reachBytes) → ∃ ds, RepC w cs ds ∧ Sh ty ds
  | .int k, t, fuel, cs, x, ht, h, _ => by
    unfold tyB at ht
    split at ht
    · rename_i k' hu
      obtain rfl : k' = k := of_decide_eq_true ht
      obtain ⟨n, rfl, _, hw⟩ := DataW.trod_int hu h
      refine ⟨[.val (.int k' n)], ⟨rfl, by simp [Value.oneCell'], fun i v d hv hd => ?_⟩, n, rfl, hw⟩
      rcases i with _ | i
      · simp at hv hd; subst hv; subst hd; exact .val _
      · simp at hv
    · cases ht
  | .bool, t, fuel, cs, x, ht, h, _ => by
    unfold tyB at ht
    split at ht
    · rename_i hu
      obtain ⟨b, rfl, _⟩ := DataW.trod_bool hu h
      refine ⟨[.val (.bool b)], ⟨rfl, by simp [Value.oneCell'], fun i v d hv hd => ?_⟩, b, rfl⟩
      rcases i with _ | i
      · simp at hv hd; subst hv; subst hd; exact .val _
      · simp at hv
    · cases ht
  | .sl E s e, t, fuel, cs, x, ht, h, hwt => by
    unfold tyB at ht
    split at ht
    · rename_i E' hu
      simp only [Bool.and_eq_true] at ht
      obtain ⟨h1, h2, h3, h4, h6, h5⟩ := ht
      obtain rfl : E' = E := Nat.eq_of_beq_eq_true h1
      have hs : P.cellsOf E' = s := Nat.eq_of_beq_eq_true h2
      have hes : e.size = s := Nat.eq_of_beq_eq_true h3
      have hs1 : 1 ≤ s := Nat.le_of_ble_eq_true h4
      have one : ∀ v : Value, v.oneCell' = true → ∀ d, Rep w (oldD w) v d → RepC w [v] [d] := fun v h1 d h2 => ⟨rfl, by simpa using h1, fun i v' d' hv hd => by
        rcases i with _ | i
        · simp at hv hd; subst hv; subst hd; exact h2
        · simp at hv⟩
      rcases DataW.trod_slice hu h with ⟨rfl, _⟩ | ⟨a, len, cap, elems, rest, n, _, rfl, hx, _, hl, hm, hlen, hel, _⟩
      · exact ⟨[.sl E' s []], one _ rfl _ (rep_nil w _ E' s), [], rfl, Nat.zero_le _, by simp⟩
      · have hws : ∀ n ∈ (elems.length + rest.length) * P.bytesOf E' :: (DataW.weightsAll P E' (elems.map (·.1)) ++ DataW.weightsAll P E' (rest.map (·.1))), n ≤ reachBytes := by
          intro n hn
          refine hwt n ?_
          rw [hx]
          simp only [DataW.weights, hu, List.length_map]
          exact hn
        have hlen47 : len ≤ 140737488355328 := by
          have h7 := hws _ (List.mem_cons_self)
          have h8 : 1 ≤ P.bytesOf E' := Nat.le_of_ble_eq_true h6
          have h9 := Nat.mul_le_mul_left (elems.length + rest.length) h8
          have h10 := reachBytes_lt
          omega
        have each : ∀ i, ∃ d : List Dat × List Value, i < len → (d.2.length = s ∧ (∀ j, j < s → w.cell? ((a.add (i * s)).add j) = d.2[j]?) ∧ RepC w d.2 d.1 ∧ Sh e d.1) := by
          intro i
          by_cases hi : i < len
          · have he := hel i hi
            rw [List.getElem?_eq_getElem (by omega), hs] at he
            cases hc : w.cells? 0 (a.add (i * s)) s with
            | none => rw [hc] at he; cases he
            | some ci =>
              rw [hc] at he
              obtain ⟨g1, g2⟩ := cells_get hc
              have hmem : elems[i] ∈ elems := List.getElem_mem _
              obtain ⟨ds, r1, r2⟩ := bridge (ty := e) h5 he (fun n hn => hws n (by
                refine List.mem_cons_of_mem _ (List.mem_append_left _ ?_)
                exact weightsAll_mem (List.mem_map_of_mem (f := (·.1)) hmem) hn))
              exact ⟨(ds, ci), fun _ => ⟨g1, g2, r1, r2⟩⟩
          · exact ⟨([], []), fun h => absurd h hi⟩
        obtain ⟨F, hF⟩ := Classical.axiomOfChoice each
        have hspot : 0 < len → a = ⟨a.block, a.off, none⟩ ∧ a.block < w.heap.size := by
          intro h0
          obtain ⟨q1, q2, _, _⟩ := hF 0 h0
          have q3 := q2 0 (by omega)
          rw [List.getElem?_eq_getElem (by omega)] at q3
          obtain ⟨b, o, sp'⟩ := a
          cases sp' with
          | none =>
            refine ⟨rfl, ?_⟩
            unfold World.cell? at q3
            split at q3
            · rename_i c _ _ hh
              simpa [Addr.add] using (Array.getElem?_eq_some_iff.1 hh).1
            · cases q3
          | some z =>
            exfalso
            unfold World.cell? at q3
            split at q3
            · simp [Addr.add] at q3
            · cases q3
        have hesl : ∀ d ∈ ((List.range len).map fun i => mkD e (F i).1), d.cells.length = s := by
          intro d hd
          rw [List.mem_map] at hd
          obtain ⟨i, hi, rfl⟩ := hd
          obtain ⟨q1, q2, q3, q4⟩ := hF i (by simpa using hi)
          rw [mkD_cells q4, Sh.len q4, hes]
        have hfl := flat_length hesl
        rw [List.length_map, List.length_range] at hfl
        have hget : ∀ q, q < len * s → ∃ u d, w.cell? (a.add q) = some u ∧ (flat ((List.range len).map fun i => mkD e (F i).1))[q]? = some d ∧ u.oneCell' = true ∧ Rep w (oldD w) u d := by
          intro q hq
          have hi : q / s < len := (Nat.div_lt_iff_lt_mul (by omega)).2 hq
          have hj : q % s < s := Nat.mod_lt _ (by omega)
          have hqe : q / s * s + q % s = q := by rw [Nat.mul_comm]; exact Nat.div_add_mod q s
          obtain ⟨q1, q2, q3, q4⟩ := hF (q / s) hi
          have c1 := q2 (q % s) hj
          have c2 : ((a.add (q / s * s)).add (q % s)) = a.add q := by
            rw [(hspot (Nat.lt_of_le_of_lt (Nat.zero_le _) hi)).1, Addr.add_lit, Addr.add_lit, Addr.add_lit, Nat.add_assoc, hqe]
          have hlen1 : (F (q / s)).1.length = s := by rw [q3.1, q1]
          have c4 : (F (q / s)).1[q % s]? = some ((F (q / s)).1[q % s]'(by rw [hlen1]; exact hj)) := List.getElem?_eq_getElem _
          have c5 : (F (q / s)).2[q % s]? = some ((F (q / s)).2[q % s]'(by rw [q1]; exact hj)) := List.getElem?_eq_getElem _
          rw [c2, c5] at c1
          have c3 := flat_get (es := (List.range len).map fun i => mkD e (F i).1) (i := q / s) (j := q % s) (e := mkD e (F (q / s)).1) hesl (by rw [List.getElem?_map, List.getElem?_range hi]; rfl) hj
          rw [hqe, mkD_cells q4, c4] at c3
          exact ⟨_, _, c1, c3, q3.2.1 _ (List.getElem_mem _), q3.2.2 (q % s) _ _ c5 c4⟩
        refine ⟨[.sl E' s ((List.range len).map fun i => mkD e (F i).1)], one _ rfl _ ?_, (List.range len).map fun i => (F i).1, ?_, by simpa using hlen47, ?_⟩
        · rcases Nat.eq_zero_or_pos len with h0 | h0
          · subst h0
            exact Rep.sl 0 0 (fun _ => undef) (by simp) hl hm (by simp) (fun h => absurd h (Nat.lt_irrefl 0)) (by simp [flat]) (by simp [flat]) (by simp [flat]) (by simp [flat])
          · obtain ⟨ha, hb⟩ := hspot h0
            refine Rep.sl a.block a.off (fun q => (w.cell? (a.add q)).getD undef) (by simp) hl hm hesl (fun _ => congrArg some ha) (fun q hq => hb) (fun q hq => ?_) (fun q hq => ?_) (fun q d hd => ?_)
            · obtain ⟨u, d, g1, _, _, _⟩ := hget q (by omega)
              have e1 : a.add q = ⟨a.block, a.off + q, none⟩ := by rw [ha, Addr.add_lit]
              rw [← e1, g1]; rfl
            · obtain ⟨u, d, g1, _, g3, _⟩ := hget q (by omega)
              rw [g1]; exact g3
            · have hq := (List.getElem?_eq_some_iff.1 hd).1
              obtain ⟨u, d', g1, g2, _, g4⟩ := hget q (by omega)
              rw [hd] at g2
              injection g2 with g2
              subst g2
              rw [g1]; exact g4
        · rw [List.map_map]; rfl
        · intro y hy
          rw [List.mem_map] at hy
          obtain ⟨i, hi, rfl⟩ := hy
          exact (hF i (by simpa using hi)).2.2.2
    · cases ht
  | .st fs, t, fuel, cs, x, ht, h, hwt => by
    unfold tyB at ht
    split at ht
    · rename_i fds hu
      simp only [Bool.and_eq_true] at ht
      obtain ⟨h1, h2, h3⟩ := ht
      obtain ⟨xs, n, _, hx, hl, hxl, hf⟩ := DataW.trod_struct hu h
      have hcl : cs.length = 0 + fs.size := by rw [hl, Nat.eq_of_beq_eq_true h1, Nat.zero_add]
      have key := bridgeL (fs := fs) (off := 0) (cs := cs) (l := fds.toList) (n := n) h2 h3 hcl (fun f hfm => by
        obtain ⟨i, hi⟩ := List.getElem?_of_mem hfm
        have := hf i f (by simpa using hi)
        have hlt : i < xs.length := by
          have := (List.getElem?_eq_some_iff.1 hi).1
          simp at this; omega
        rw [List.getElem?_eq_getElem hlt] at this
        refine ⟨_, this, fun m hm => hwt m ?_⟩
        rw [hx]
        simp only [DataW.weights, hu]
        exact DataW.weights_mem_each (j := i) (by rw [List.getElem?_map, hi]; rfl) (by rw [List.getElem?_map, List.getElem?_eq_getElem hlt]; rfl) m hm)
      rw [List.drop_zero] at key
      exact key
    · cases ht
  | .ar k E fs, t, fuel, cs, x, ht, h, hwt => by
    unfold tyB at ht
    split at ht
    · rename_i k' E' hu
      simp only [Bool.and_eq_true] at ht
      obtain ⟨h0, h1, h4, h2, h3⟩ := ht
      obtain rfl : k' = k := Nat.eq_of_beq_eq_true h0
      obtain rfl : E' = E := Nat.eq_of_beq_eq_true h1
      obtain ⟨xs, n, _, hx, hl, hxl, hf⟩ := DataW.trod_array hu h
      have hcl : cs.length = 0 + fs.size := by rw [hl, Nat.eq_of_beq_eq_true h4, Nat.zero_add]
      have key := bridgeL (fs := fs) (off := 0) (cs := cs) (l := arFs E' (P.cellsOf E') k' 0) (n := n) h2 h3 hcl (fun f hfm => by
        obtain ⟨j, hj, ft, fo⟩ := arFs_mem hfm
        have := hf j hj
        have hlt : j < xs.length := by omega
        rw [List.getElem?_eq_getElem hlt] at this
        refine ⟨xs[j], ?_, fun m hm => hwt m ?_⟩
        · rw [ft, fo, Nat.zero_add]; exact this
        · rw [hx]
          simp only [DataW.weights, hu]
          rw [ft] at hm
          exact weightsAll_mem (List.mem_map_of_mem (f := (·.1)) (List.getElem_mem hlt)) hm)
      rw [List.drop_zero] at key
      exact key
    · cases ht
theorem bridgeL : ∀ {fs : TyL} {l : List Field} {off n : Nat} {cs : List Value}, fieldsB l off fs = true → tysB P fs = true → cs.length = off + fs.size → (∀ f ∈ l, ∃ y, DataW.trod enc P w 0 sp held n f.type ((cs.drop f.offset).take (P.cellsOf f.type)) = some y ∧ ∀ m ∈ y.1.weights P f.type, m ≤ reachBytes) →
    ∃ ds, RepC w (cs.drop off) ds ∧ ShL fs ds
  | .nil, l, off, n, cs, h1, h2, h3, h4 => by
    have : cs.drop off = [] := List.drop_eq_nil_of_le (by rw [h3]; exact Nat.le_refl _)
    rw [this]
    exact ⟨[], ⟨rfl, by simp, by simp⟩, rfl⟩
  | .cons t ty r, l, off, n, cs, h1, h2, h3, h4 => by
    cases l with
    | nil => cases h1
    | cons f l =>
      simp only [fieldsB, Bool.and_eq_true] at h1
      obtain ⟨e1, e2, e3⟩ := h1
      simp only [tysB, Bool.and_eq_true] at h2
      obtain ⟨f1, f2, f3⟩ := h2
      have et := Nat.eq_of_beq_eq_true e1
      have eo := Nat.eq_of_beq_eq_true e2
      have ec := Nat.eq_of_beq_eq_true f1
      obtain ⟨y, hy, hyw⟩ := h4 f (by simp)
      rw [et, eo, ec] at hy
      rw [et] at hyw
      obtain ⟨d1, r1, s1⟩ := bridge (ty := ty) f2 hy hyw
      have h3' : cs.length = off + ty.size + r.size := by rw [h3]; show off + (ty.size + r.size) = _; omega
      obtain ⟨d2, r2, s2⟩ := bridgeL (fs := r) (off := off + ty.size) (cs := cs) (l := l) (n := n) e3 f3 h3' (fun g hg => h4 g (by simp [hg]))
      refine ⟨d1 ++ d2, ?_, d1, d2, rfl, s1, s2⟩
      rw [drop_take_split (cs := cs) (off := off) (n := ty.size) (m := r.size) (by omega)]
      exact r1.append r2
end
theorem open_arg {ty : Ty} {t : TypeId} {v : Value} {d : DataW H} {p : List MemPlace} (hty : tyB P t ty = true) (hv : isSt ty = true → ∃ cs, v = .agg cs) (hv1 : isSt ty = false → v.cells = #[v]) (h : DataW.Trod enc P w 0 sp held t v d p) (hwt : ∀ n ∈ d.weights P t, n ≤ reachBytes) :
    ∃ ds, Rep w (oldD w) v (mkD ty ds) ∧ Sh ty ds := by
  obtain ⟨fuel, hf⟩ := h
  obtain ⟨ds, hr, hs⟩ := bridge (ty := ty) hty hf hwt
  refine ⟨ds, ?_, hs⟩
  cases hst : isSt ty with
  | true =>
    obtain ⟨cs, rfl⟩ := hv hst
    have e : mkD ty ds = .agg ds := by unfold mkD; rw [hst]; rfl
    rw [e]
    have := Rep.agg (w := w) (D := oldD w) (cs := ds) cs.toList hr.1.symm hr.2.1 hr.2.2
    simpa using this
  | false =>
    have hv2 := hv1 hst
    have hc := hr.1
    rw [hv2] at hr
    simp only [Array.toList] at hr
    obtain ⟨h1, h2, h3⟩ := hr
    have hl : ds.length = 1 := by simpa using h1
    obtain ⟨d0, rfl⟩ := List.length_eq_one_iff.1 hl
    have e : mkD ty [d0] = d0 := by unfold mkD; rw [hst]; rfl
    rw [e]
    exact h3 0 v d0 rfl rfl
end
theorem oldD_ok (w : World) : DOk (oldD w) w := fun _ _ _ h => h
end Go.Fid
