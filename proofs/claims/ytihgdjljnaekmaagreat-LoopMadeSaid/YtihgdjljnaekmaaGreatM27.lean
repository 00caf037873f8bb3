/- Part 27 of a proof: rules, plain facts, and functions walked. -/
import Derived.Test.YtihgdjljnaekmaaGreatM26
import Derived.Test.YtihgdjljnaekmaaGreatM21
namespace Go.Proofs.YtihgdjljnaekmaaGreat
open Go.Fid
set_option maxRecDepth 4000
set_option linter.unusedVariables false
set_option linter.unusedSimpArgs false
theorem cb22 : callB Tryz.prog 22 = true := by kernel_rfl
theorem cb25 : callB Tryz.prog 25 = true := by kernel_rfl
theorem cb76 : callB Tryz.prog 76 = true := by kernel_rfl
theorem gQ : uR Tryz.prog 39 = some (56, 6) := by kernel_rfl
theorem vY : yQ Tryz.prog 56 0 = some 0 := by kernel_rfl
theorem xD : yQ Tryz.prog 56 1 = some 1 := by kernel_rfl
theorem fo56_2 : yQ Tryz.prog 56 2 = some 2 := by kernel_rfl
theorem hP : kV Tryz.prog 56 = some (true, 6) := by kernel_rfl
theorem fK : vF Tryz.prog 56 = some [.int .i64 0, .int .i64 0, .int .i64 0, .int .i64 0, .int .i64 0, .int .i64 0] := by kernel_rfl
theorem zo56 : mV [.int .i64 0, .int .i64 0, .int .i64 0, .int .i64 0, .int .i64 0, .int .i64 0] [.val (.int .i64 0), .val (.int .i64 0), .val (.int .i64 0), .val (.int .i64 0), .val (.int .i64 0), .val (.int .i64 0)] := by simp [mV, Value.oneCell']
theorem l_check (n : Int) (es : List jC) (hb : es.length ≤ 1000000) : jZ Tryz.prog 25 [(.val (.int .i64 (n))), (.sl 56 6 (List.map jK es))] (.val (.int .i64 ((((qO n es) : Nat) : Int)))) := by
 refine jL Tryz.func25 rfl cb25 rfl ?_
 show qS _ _ _ _ ⟨[(0, (vi n)), (1, (vl 56 6 jK es))], []⟩
 refine jA <| kx [] [] (zM <| zZ) ?_
 refine jA <| jA <| kx [(18, (vb ((decide (n < 1) || decide (64 < n)) || decide (256 < ((es.length : Nat) : Int)))))] [] ?_ ?_
 ·refine zM <| zE uP <| zE (oV (vb (decide (n < 1))) (kP (by kernel_rfl))) <| ?_
  rcases hb1 : (decide (n < 1)) with _ | _
  ·replace hb1 := of_decide_eq_false hb1
   refine zM <| zE mZ <| zE nI <| zE (oV (vb (false || decide (64 < n))) (kP (by kernel_rfl))) <| ?_
   rcases hb2 : (false || decide (64 < n)) with _ | _
   ·replace hb2 := of_decide_eq_false (p := (64 < n)) hb2
    exact zM <| zE (xA gQ) <| zE mZ <| zE nI <| zZ
   ·replace hb2 := of_decide_eq_true (p := (64 < n)) hb2
    exact zK <| zK <| zK <| zE vR <| zZ
  ·replace hb1 := of_decide_eq_true hb1
   exact zK <| zK <| zE vR <| zM <| zK <| zK <| zK <| zE vR <| zZ
 refine jG rfl (fun h3 => ?_) (fun h3 => ?_)
 ·refine jA <| kx [(4, (jQ 3))] [] (zM <| zZ) ?_
  refine jI ⟨_, (.tmp (d := (.val (.int .i64 (3)))) rfl .nil), ?_⟩
  rw [limB_t h3]; rfl
 ·refine jF <| jA <| jA <| kx [(19, (vl 56 6 jK es)), (20, (jQ es.length)), (21, (jQ 0))] [] (zM <| zE (xA gQ) <| zM <| zZ) ?_
  refine jH <| kH (α := Nat) (fun k => ⟨[(0, (vi n)), (19, (vl 56 6 jK es)), (20, (jQ es.length)), (21, (jQ k))], []⟩) (fun k => k ≤ es.length ∧ okUp n es k) (fun k => es.length - k) 0 wk ⟨Nat.zero_le _, okUp_0 _ _⟩ ?_
  rintro k ⟨hk, hv⟩
  refine jA <| kx [(22, (vb (decide (((k : Nat) : Int) < ((es.length : Nat) : Int)))))] [] (zE uP <| zZ) ?_
  refine jA <| jG rfl (fun h4 => ?_) (fun h4 => ?_)
  ·replace h4 := of_decide_eq_true h4
   refine jF <| jA <| jH <| jA <| kx [(6, (.ref 0 0))] [(0, some (bx (jK (es.getD k (jC.mk 0 0 (jB.mk 0 0 0 0))))))] (zE (yO gQ k (jC.mk 0 0 (jB.mk 0 0 0 0))) <| zE (eN hP) <| zN (uQ 0 fK zo56) <| zT (kZ hP) <| zZ) ?_
   refine jA <| jA <| kx [(44, (vb (((decide ((es.getD k (jC.mk 0 0 (jB.mk 0 0 0 0))).fr < 0) || decide (n ≤ (es.getD k (jC.mk 0 0 (jB.mk 0 0 0 0))).fr)) || decide ((es.getD k (jC.mk 0 0 (jB.mk 0 0 0 0))).to_ < 0)) || decide (n ≤ (es.getD k (jC.mk 0 0 (jB.mk 0 0 0 0))).to_))))] [] ?_ ?_
   ·refine zE (kQ vY) <| zR (kM qA) <| zE uP <| zE (oV (vb (decide ((es.getD k (jC.mk 0 0 (jB.mk 0 0 0 0))).fr < 0))) (kP (by kernel_rfl))) <| ?_
    rcases hb5 : (decide ((es.getD k (jC.mk 0 0 (jB.mk 0 0 0 0))).fr < 0)) with _ | _
    ·replace hb5 := of_decide_eq_false hb5
     refine zE (kQ vY) <| zR (kM qA) <| zM <| zE oGe <| zE nI <| zE (oV (vb (false || decide (n ≤ (es.getD k (jC.mk 0 0 (jB.mk 0 0 0 0))).fr))) (kP (by kernel_rfl))) <| ?_
     rcases hb6 : (false || decide (n ≤ (es.getD k (jC.mk 0 0 (jB.mk 0 0 0 0))).fr)) with _ | _
     ·replace hb6 := of_decide_eq_false (p := (n ≤ (es.getD k (jC.mk 0 0 (jB.mk 0 0 0 0))).fr)) hb6
      refine zE (kQ xD) <| zR (kM qA) <| zE uP <| zE nI <| zE (oV (vb (false || decide ((es.getD k (jC.mk 0 0 (jB.mk 0 0 0 0))).to_ < 0))) (kP (by kernel_rfl))) <| ?_
      rcases hb7 : (false || decide ((es.getD k (jC.mk 0 0 (jB.mk 0 0 0 0))).to_ < 0)) with _ | _
      ·replace hb7 := of_decide_eq_false (p := ((es.getD k (jC.mk 0 0 (jB.mk 0 0 0 0))).to_ < 0)) hb7
       exact zE (kQ xD) <| zR (kM qA) <| zM <| zE oGe <| zE nI <| zZ
      ·replace hb7 := of_decide_eq_true (p := ((es.getD k (jC.mk 0 0 (jB.mk 0 0 0 0))).to_ < 0)) hb7
       exact zK <| zK <| zK <| zK <| zE vR <| zZ
     ·replace hb6 := of_decide_eq_true (p := (n ≤ (es.getD k (jC.mk 0 0 (jB.mk 0 0 0 0))).fr)) hb6
      exact zK <| zK <| zK <| zE vR <| zM <| zK <| zK <| zK <| zK <| zE vR <| zZ
    ·replace hb5 := of_decide_eq_true hb5
     exact zK <| zK <| zK <| zK <| zE vR <| zM <| zK <| zK <| zK <| zE vR <| zM <| zK <| zK <| zK <| zK <| zE vR <| zZ
   refine jG rfl (fun h8 => ?_) (fun h8 => ?_)
   ·refine jA <| kx [(4, (jQ 2))] [] (zM <| zZ) ?_
    refine jI ⟨_, (.tmp (d := (.val (.int .i64 (2)))) rfl .nil), ?_⟩
    rw [lop_bad (k := k) h3 (by omega) hv (rngB_t h8) (by decide)]; rfl
   ·refine jF <| jA <| jA <| kx [(49, (vb ((es.getD k (jC.mk 0 0 (jB.mk 0 0 0 0))).fr == (es.getD k (jC.mk 0 0 (jB.mk 0 0 0 0))).to_)))] [] (zE (kQ vY) <| zR (kM qA) <| zE (kQ xD) <| zR (kM qA) <| zE gF <| zZ) ?_
    refine jG rfl (fun h9 => ?_) (fun h9 => ?_)
    ·replace h9 := eq_of_beq h9
     refine jA <| kx [(4, (jQ 13))] [] (zM <| zZ) ?_
     refine jI ⟨_, (.tmp (d := (.val (.int .i64 (13)))) rfl .nil), ?_⟩
     rw [lop_bad (k := k) h3 (by omega) hv (edgC_d h8 h9) (by decide)]; rfl
    ·replace h9 := ne_of_beq_false h9
     refine jF <| jA <| kx [(7, (jQ (yT (((es.getD k (jC.mk 0 0 (jB.mk 0 0 0 0))).turn).a) (((es.getD k (jC.mk 0 0 (jB.mk 0 0 0 0))).turn).b) (((es.getD k (jC.mk 0 0 (jB.mk 0 0 0 0))).turn).c) (((es.getD k (jC.mk 0 0 (jB.mk 0 0 0 0))).turn).d))))] [] (zE (kQ fo56_2) <| zR (kT kK) <| zE (kD (q_chk (((es.getD k (jC.mk 0 0 (jB.mk 0 0 0 0))).turn).a) (((es.getD k (jC.mk 0 0 (jB.mk 0 0 0 0))).turn).b) (((es.getD k (jC.mk 0 0 (jB.mk 0 0 0 0))).turn).c) (((es.getD k (jC.mk 0 0 (jB.mk 0 0 0 0))).turn).d))) <| zM <| zZ) ?_
     refine jA <| kx [(54, (vb ((((yT (((es.getD k (jC.mk 0 0 (jB.mk 0 0 0 0))).turn).a) (((es.getD k (jC.mk 0 0 (jB.mk 0 0 0 0))).turn).b) (((es.getD k (jC.mk 0 0 (jB.mk 0 0 0 0))).turn).c) (((es.getD k (jC.mk 0 0 (jB.mk 0 0 0 0))).turn).d)) : Nat) : Int) != 0)))] [] (zM <| zE cG <| zZ) ?_
     refine jG rfl (fun h10 => ?_) (fun h10 => ?_)
     ·replace h10 := bne_iff_ne.1 h10
      refine jA <| kx [(4, (jQ (yT (((es.getD k (jC.mk 0 0 (jB.mk 0 0 0 0))).turn).a) (((es.getD k (jC.mk 0 0 (jB.mk 0 0 0 0))).turn).b) (((es.getD k (jC.mk 0 0 (jB.mk 0 0 0 0))).turn).c) (((es.getD k (jC.mk 0 0 (jB.mk 0 0 0 0))).turn).d))))] [] (zM <| zM <| zZ) ?_
      refine jI ⟨_, (.tmp (d := (.val (.int .i64 ((((yT (((es.getD k (jC.mk 0 0 (jB.mk 0 0 0 0))).turn).a) (((es.getD k (jC.mk 0 0 (jB.mk 0 0 0 0))).turn).b) (((es.getD k (jC.mk 0 0 (jB.mk 0 0 0 0))).turn).c) (((es.getD k (jC.mk 0 0 (jB.mk 0 0 0 0))).turn).d)) : Nat) : Int))))) rfl .nil), ?_⟩
      rw [lop_bad (k := k) h3 (by omega) hv (edgC_q h8 h9) (nM h10)]; rfl
     ·replace h10 := bne_eq_false_iff_eq.1 h10
      refine jF <| kx [(21, (jQ (k + 1)))] [] (zE (qQ (k + 1)) <| zM <| zZ) ?_
      exact ⟨(k + 1), wk, ⟨by omega, okUp_s hv ((edgC_q h8 h9).trans (by omega))⟩, (by omega)⟩
  ·replace h4 := of_decide_eq_false h4
   refine jW <| jA <| kx [(4, (jQ 0))] [] (zM <| zZ) ?_
   refine jI ⟨_, (.tmp (d := (.val (.int .i64 (0)))) rfl .nil), ?_⟩
   rw [lop_end (k := k) h3 (by omega) hv]; rfl
theorem l8_check (n : Int) (es : List jC) (hb : es.length ≤ 1000000) : jZ Tryz.prog 22 [(.val (.int .i64 (n))), (.sl 56 6 (List.map jK es))] (.val (.int .i64 ((((qO n es) : Nat) : Int)))) := by
 refine jL Tryz.func22 rfl cb22 rfl ?_
 show qS _ _ _ _ ⟨[(0, (vi n)), (1, (vl 56 6 jK es))], []⟩
 refine jA <| kx [] [] (zM <| zZ) ?_
 refine jA <| jA <| kx [(18, (vb ((decide (n < 1) || decide (64 < n)) || decide (256 < ((es.length : Nat) : Int)))))] [] ?_ ?_
 ·refine zM <| zE uP <| zE (oV (vb (decide (n < 1))) (kP (by kernel_rfl))) <| ?_
  rcases hb1 : (decide (n < 1)) with _ | _
  ·replace hb1 := of_decide_eq_false hb1
   refine zM <| zE mZ <| zE nI <| zE (oV (vb (false || decide (64 < n))) (kP (by kernel_rfl))) <| ?_
   rcases hb2 : (false || decide (64 < n)) with _ | _
   ·replace hb2 := of_decide_eq_false (p := (64 < n)) hb2
    exact zM <| zE (xA gQ) <| zE mZ <| zE nI <| zZ
   ·replace hb2 := of_decide_eq_true (p := (64 < n)) hb2
    exact zK <| zK <| zK <| zE vR <| zZ
  ·replace hb1 := of_decide_eq_true hb1
   exact zK <| zK <| zE vR <| zM <| zK <| zK <| zK <| zE vR <| zZ
 refine jG rfl (fun h3 => ?_) (fun h3 => ?_)
 ·refine jA <| kx [(4, (jQ 3))] [] (zM <| zZ) ?_
  refine jI ⟨_, (.tmp (d := (.val (.int .i64 (3)))) rfl .nil), ?_⟩
  rw [limB_t h3]; rfl
 ·refine jF <| jA <| jA <| kx [(19, (vl 56 6 jK es)), (20, (jQ es.length)), (21, (jQ 0))] [] (zM <| zE (xA gQ) <| zM <| zZ) ?_
  refine jH <| kH (α := Nat) (fun k => ⟨[(0, (vi n)), (19, (vl 56 6 jK es)), (20, (jQ es.length)), (21, (jQ k))], []⟩) (fun k => k ≤ es.length ∧ okUp n es k) (fun k => es.length - k) 0 wk ⟨Nat.zero_le _, okUp_0 _ _⟩ ?_
  rintro k ⟨hk, hv⟩
  refine jA <| kx [(22, (vb (decide (((k : Nat) : Int) < ((es.length : Nat) : Int)))))] [] (zE uP <| zZ) ?_
  refine jA <| jG rfl (fun h4 => ?_) (fun h4 => ?_)
  ·replace h4 := of_decide_eq_true h4
   refine jF <| jA <| jH <| jA <| kx [(6, (.ref 0 0))] [(0, some (bx (jK (es.getD k (jC.mk 0 0 (jB.mk 0 0 0 0))))))] (zE (yO gQ k (jC.mk 0 0 (jB.mk 0 0 0 0))) <| zE (eN hP) <| zN (uQ 0 fK zo56) <| zT (kZ hP) <| zZ) ?_
   refine jA <| jA <| kx [(44, (vb (((decide ((es.getD k (jC.mk 0 0 (jB.mk 0 0 0 0))).fr < 0) || decide (n ≤ (es.getD k (jC.mk 0 0 (jB.mk 0 0 0 0))).fr)) || decide ((es.getD k (jC.mk 0 0 (jB.mk 0 0 0 0))).to_ < 0)) || decide (n ≤ (es.getD k (jC.mk 0 0 (jB.mk 0 0 0 0))).to_))))] [] ?_ ?_
   ·refine zE (kQ vY) <| zR (kM qA) <| zE uP <| zE (oV (vb (decide ((es.getD k (jC.mk 0 0 (jB.mk 0 0 0 0))).fr < 0))) (kP (by kernel_rfl))) <| ?_
    rcases hb5 : (decide ((es.getD k (jC.mk 0 0 (jB.mk 0 0 0 0))).fr < 0)) with _ | _
    ·replace hb5 := of_decide_eq_false hb5
     refine zE (kQ vY) <| zR (kM qA) <| zM <| zE oGe <| zE nI <| zE (oV (vb (false || decide (n ≤ (es.getD k (jC.mk 0 0 (jB.mk 0 0 0 0))).fr))) (kP (by kernel_rfl))) <| ?_
     rcases hb6 : (false || decide (n ≤ (es.getD k (jC.mk 0 0 (jB.mk 0 0 0 0))).fr)) with _ | _
     ·replace hb6 := of_decide_eq_false (p := (n ≤ (es.getD k (jC.mk 0 0 (jB.mk 0 0 0 0))).fr)) hb6
      refine zE (kQ xD) <| zR (kM qA) <| zE uP <| zE nI <| zE (oV (vb (false || decide ((es.getD k (jC.mk 0 0 (jB.mk 0 0 0 0))).to_ < 0))) (kP (by kernel_rfl))) <| ?_
      rcases hb7 : (false || decide ((es.getD k (jC.mk 0 0 (jB.mk 0 0 0 0))).to_ < 0)) with _ | _
      ·replace hb7 := of_decide_eq_false (p := ((es.getD k (jC.mk 0 0 (jB.mk 0 0 0 0))).to_ < 0)) hb7
       exact zE (kQ xD) <| zR (kM qA) <| zM <| zE oGe <| zE nI <| zZ
      ·replace hb7 := of_decide_eq_true (p := ((es.getD k (jC.mk 0 0 (jB.mk 0 0 0 0))).to_ < 0)) hb7
       exact zK <| zK <| zK <| zK <| zE vR <| zZ
     ·replace hb6 := of_decide_eq_true (p := (n ≤ (es.getD k (jC.mk 0 0 (jB.mk 0 0 0 0))).fr)) hb6
      exact zK <| zK <| zK <| zE vR <| zM <| zK <| zK <| zK <| zK <| zE vR <| zZ
    ·replace hb5 := of_decide_eq_true hb5
     exact zK <| zK <| zK <| zK <| zE vR <| zM <| zK <| zK <| zK <| zE vR <| zM <| zK <| zK <| zK <| zK <| zE vR <| zZ
   refine jG rfl (fun h8 => ?_) (fun h8 => ?_)
   ·refine jA <| kx [(4, (jQ 2))] [] (zM <| zZ) ?_
    refine jI ⟨_, (.tmp (d := (.val (.int .i64 (2)))) rfl .nil), ?_⟩
    rw [lop_bad (k := k) h3 (by omega) hv (rngB_t h8) (by decide)]; rfl
   ·refine jF <| jA <| jA <| kx [(49, (vb ((es.getD k (jC.mk 0 0 (jB.mk 0 0 0 0))).fr == (es.getD k (jC.mk 0 0 (jB.mk 0 0 0 0))).to_)))] [] (zE (kQ vY) <| zR (kM qA) <| zE (kQ xD) <| zR (kM qA) <| zE gF <| zZ) ?_
    refine jG rfl (fun h9 => ?_) (fun h9 => ?_)
    ·replace h9 := eq_of_beq h9
     refine jA <| kx [(4, (jQ 13))] [] (zM <| zZ) ?_
     refine jI ⟨_, (.tmp (d := (.val (.int .i64 (13)))) rfl .nil), ?_⟩
     rw [lop_bad (k := k) h3 (by omega) hv (edgC_d h8 h9) (by decide)]; rfl
    ·replace h9 := ne_of_beq_false h9
     refine jF <| jA <| kx [(7, (jQ (yT (((es.getD k (jC.mk 0 0 (jB.mk 0 0 0 0))).turn).a) (((es.getD k (jC.mk 0 0 (jB.mk 0 0 0 0))).turn).b) (((es.getD k (jC.mk 0 0 (jB.mk 0 0 0 0))).turn).c) (((es.getD k (jC.mk 0 0 (jB.mk 0 0 0 0))).turn).d))))] [] (zE (kQ fo56_2) <| zR (kT kK) <| zE (kD (qs_chk (((es.getD k (jC.mk 0 0 (jB.mk 0 0 0 0))).turn).a) (((es.getD k (jC.mk 0 0 (jB.mk 0 0 0 0))).turn).b) (((es.getD k (jC.mk 0 0 (jB.mk 0 0 0 0))).turn).c) (((es.getD k (jC.mk 0 0 (jB.mk 0 0 0 0))).turn).d))) <| zM <| zZ) ?_
     refine jA <| kx [(54, (vb ((((yT (((es.getD k (jC.mk 0 0 (jB.mk 0 0 0 0))).turn).a) (((es.getD k (jC.mk 0 0 (jB.mk 0 0 0 0))).turn).b) (((es.getD k (jC.mk 0 0 (jB.mk 0 0 0 0))).turn).c) (((es.getD k (jC.mk 0 0 (jB.mk 0 0 0 0))).turn).d)) : Nat) : Int) != 0)))] [] (zM <| zE cG <| zZ) ?_
     refine jG rfl (fun h10 => ?_) (fun h10 => ?_)
     ·replace h10 := bne_iff_ne.1 h10
      refine jA <| kx [(4, (jQ (yT (((es.getD k (jC.mk 0 0 (jB.mk 0 0 0 0))).turn).a) (((es.getD k (jC.mk 0 0 (jB.mk 0 0 0 0))).turn).b) (((es.getD k (jC.mk 0 0 (jB.mk 0 0 0 0))).turn).c) (((es.getD k (jC.mk 0 0 (jB.mk 0 0 0 0))).turn).d))))] [] (zM <| zM <| zZ) ?_
      refine jI ⟨_, (.tmp (d := (.val (.int .i64 ((((yT (((es.getD k (jC.mk 0 0 (jB.mk 0 0 0 0))).turn).a) (((es.getD k (jC.mk 0 0 (jB.mk 0 0 0 0))).turn).b) (((es.getD k (jC.mk 0 0 (jB.mk 0 0 0 0))).turn).c) (((es.getD k (jC.mk 0 0 (jB.mk 0 0 0 0))).turn).d)) : Nat) : Int))))) rfl .nil), ?_⟩
      rw [lop_bad (k := k) h3 (by omega) hv (edgC_q h8 h9) (nM h10)]; rfl
     ·replace h10 := bne_eq_false_iff_eq.1 h10
      refine jF <| kx [(21, (jQ (k + 1)))] [] (zE (qQ (k + 1)) <| zM <| zZ) ?_
      exact ⟨(k + 1), wk, ⟨by omega, okUp_s hv ((edgC_q h8 h9).trans (by omega))⟩, (by omega)⟩
  ·replace h4 := of_decide_eq_false h4
   refine jW <| jA <| kx [(4, (jQ 0))] [] (zM <| zZ) ?_
   refine jI ⟨_, (.tmp (d := (.val (.int .i64 (0)))) rfl .nil), ?_⟩
   rw [lop_end (k := k) h3 (by omega) hv]; rfl
theorem l_step (es : List jC) (k : Int) (hb : es.length ≤ 1000000) (htk : Tok es) (hk : inE es k) : jZ Tryz.prog 76 [(.sl 56 6 (List.map jK es)), (.val (.int .i64 (k)))] (.tup [(.val (.int .i64 ((stF es k)))), (.val (.int .i64 ((stT es k)))), (jE (stQ es k)), (.val (.int .i64 (0)))]) := by
 have hk0 := hk
 unfold inE at hk
 refine jL Tryz.func76 rfl cb76 rfl ?_
 show qS _ _ _ _ ⟨[(0, (vl 56 6 jK es)), (1, (vi k))], []⟩
 refine jA <| kx [(6, (.ref 0 0))] [(0, some (bx (jE (jB.mk 0 0 0 0))))] (zM <| zM <| zN (uQ 0 uY uZ) <| zM <| zZ) ?_
 refine jA <| jA <| kx [(13, (vb (decide (0 ≤ k))))] [] (zM <| zE oGe <| zZ) ?_
 refine jG (b := decide (0 ≤ k)) rfl (fun h1 => ?_) (fun h1 => ?_)
 ·replace h1 := of_decide_eq_true h1
  refine jA <| kx [(8, (.ref 1 0))] [(1, some (bx (jK (es.getD ((k).toNat) (jC.mk 0 0 (jB.mk 0 0 0 0))))))] (zM <| zM <| zE (yO gQ ((k).toNat) (jC.mk 0 0 (jB.mk 0 0 0 0))) <| zE (eN hP) <| zN (uQ 1 fK zo56) <| zT (kZ hP) <| zZ) ?_
  refine jA <| kd [(4, (vi ((es.getD ((k).toNat) (jC.mk 0 0 (jB.mk 0 0 0 0))).fr))), (5, (vi ((es.getD ((k).toNat) (jC.mk 0 0 (jB.mk 0 0 0 0))).to_))), (7, (jQ 0))] [(0, some (bx (jE ((es.getD ((k).toNat) (jC.mk 0 0 (jB.mk 0 0 0 0))).turn))))] mo (wE (kQ vY) <| wR (kM qA) <| wE (kQ xD) <| wR (kM qA) <| wE (kQ fo56_2) <| wR (kT kK) <| wM <| wM <| wT (kZ kK) <| wM <| wZ) ?_
  refine jI ⟨_, (.tmp (d := (.val (.int .i64 ((es.getD ((k).toNat) (jC.mk 0 0 (jB.mk 0 0 0 0))).fr)))) rfl (.tmp (d := (.val (.int .i64 ((es.getD ((k).toNat) (jC.mk 0 0 (jB.mk 0 0 0 0))).to_)))) rfl (kS (cs := (bx (jE ((es.getD ((k).toNat) (jC.mk 0 0 (jB.mk 0 0 0 0))).turn)))) (d := (jE ((es.getD ((k).toNat) (jC.mk 0 0 (jB.mk 0 0 0 0))).turn))) rfl rfl kK rfl rfl (.tmp (d := (.val (.int .i64 (0)))) rfl .nil)))), ?_⟩
  obtain ⟨q1, q2, q3⟩ := st_p (es := es) h1
  rw [q1, q2, q3]; rfl
 ·replace h1 := of_decide_eq_false h1
  have hq := htk.at (k := (-1 - k).toNat) (by omega)
  refine jF <| jA <| kx [(9, (.ref 2 0))] [(2, some (bx (jK (es.getD ((-1 - k).toNat) (jC.mk 0 0 (jB.mk 0 0 0 0))))))] (zM <| zM <| zE (oSb ((-1 - k).toNat) (hr := by exact (qK (by first | omega | rfl | (dsimp only; omega)) (by simp only [xN]; omega) (by simp only [xO]; omega)))) <| zE (yO gQ ((-1 - k).toNat) (jC.mk 0 0 (jB.mk 0 0 0 0))) <| zE (eN hP) <| zN (uQ 2 fK zo56) <| zT (kZ hP) <| zZ) ?_
  refine jA <| kx [(10, (.ref 3 0)), (11, (jQ (qC (uD ((es.getD ((-1 - k).toNat) (jC.mk 0 0 (jB.mk 0 0 0 0))).turn)))))] [(3, some (bx (jE (qV (uD ((es.getD ((-1 - k).toNat) (jC.mk 0 0 (jB.mk 0 0 0 0))).turn))))))] (zE (kQ fo56_2) <| zR (kT kK) <| zE (kD (l_conj ((es.getD ((-1 - k).toNat) (jC.mk 0 0 (jB.mk 0 0 0 0))).turn) hq)) <| zM <| zE qG <| zE qG <| zN (uQ 3 uY uZ) <| zT (kZ kK) <| zM <| zZ) ?_
  refine jA <| kd [(4, (vi ((es.getD ((-1 - k).toNat) (jC.mk 0 0 (jB.mk 0 0 0 0))).to_))), (5, (vi ((es.getD ((-1 - k).toNat) (jC.mk 0 0 (jB.mk 0 0 0 0))).fr))), (7, (jQ (qC (uD ((es.getD ((-1 - k).toNat) (jC.mk 0 0 (jB.mk 0 0 0 0))).turn)))))] [(0, some (bx (jE (qV (uD ((es.getD ((-1 - k).toNat) (jC.mk 0 0 (jB.mk 0 0 0 0))).turn))))))] mo (wE (kQ xD) <| wR (kM qA) <| wE (kQ vY) <| wR (kM qA) <| wR (kT kK) <| wM <| wM <| wM <| wT (kZ kK) <| wM <| wZ) ?_
  refine jI ⟨_, (.tmp (d := (.val (.int .i64 ((es.getD ((-1 - k).toNat) (jC.mk 0 0 (jB.mk 0 0 0 0))).to_)))) rfl (.tmp (d := (.val (.int .i64 ((es.getD ((-1 - k).toNat) (jC.mk 0 0 (jB.mk 0 0 0 0))).fr)))) rfl (kS (cs := (bx (jE (qV (uD ((es.getD ((-1 - k).toNat) (jC.mk 0 0 (jB.mk 0 0 0 0))).turn)))))) (d := (jE (qV (uD ((es.getD ((-1 - k).toNat) (jC.mk 0 0 (jB.mk 0 0 0 0))).turn))))) rfl rfl kK rfl rfl (.tmp (d := (.val (.int .i64 ((((qC (uD ((es.getD ((-1 - k).toNat) (jC.mk 0 0 (jB.mk 0 0 0 0))).turn))) : Nat) : Int))))) rfl .nil)))), ?_⟩
  obtain ⟨q1, q2, q3⟩ := st_n (es := es) h1
  rw [q1, q2, q3, show qC (uD (es.getD (-1 - k).toNat (jC.mk 0 0 (jB.mk 0 0 0 0))).turn) = 0 from gL hq]; rfl
end Go.Proofs.YtihgdjljnaekmaaGreat
namespace Go.Proofs.YtihgdjljnaekmaaGreat
open Go.Fid
set_option maxRecDepth 4000
set_option linter.unusedVariables false
set_option linter.unusedSimpArgs false
theorem cb48 : callB Tryz.prog 48 = true := by kernel_rfl
theorem cb77 : callB Tryz.prog 77 = true := by kernel_rfl
theorem cb87 : callB Tryz.prog 87 = true := by kernel_rfl
theorem sh39 : kV Tryz.prog 39 = some (false, 1) := by kernel_rfl
theorem l_one  : jZ Tryz.prog 87 [] (jE q1) := by
 refine jL Tryz.func87 rfl cb87 rfl ?_
 show qS _ _ _ _ ⟨[], []⟩
 refine jA <| kx [(0, (.ref 0 0))] [(0, some (bx (jE (jB.mk 0 0 0 0))))] (zN (uQ 0 uY uZ) <| zZ) ?_
 refine jA <| kx [] [(0, some (bx (jE (jB.mk 1 0 0 0))))] (zE (eQ cH uY uZ) <| zT (kZ kK) <| zZ) ?_
 refine jI ⟨_, (kS (cs := (bx (jE (jB.mk 1 0 0 0)))) (d := (jE (jB.mk 1 0 0 0))) rfl rfl kK rfl rfl .nil), ?_⟩
 rfl
theorem l_aro (es : List jC) (tau : Nat) (ws : List Int) (hb : es.length ≤ 1000000) (hbw : ws.length ≤ 1000000) (htk : Tok es) (hw : wIn es ws) : jZ Tryz.prog 77 [(.sl 56 6 (List.map jK es)), (.sl tau 1 (List.map jP ws))] (.tup [(jE (aroV es ws)), (.val (.int .i64 ((((cY es ws) : Nat) : Int))))]) := by
 refine jL Tryz.func77 rfl cb77 rfl ?_
 show qS _ _ _ _ ⟨[(0, (vl 56 6 jK es)), (1, (vl tau 1 jP ws))], []⟩
 refine jA <| kx [(4, (.ref 0 0))] [(0, some (bx (jE (jB.mk 0 0 0 0))))] (zN (uQ 0 uY uZ) <| zM <| zZ) ?_
 refine jA <| kx [(6, (.ref 1 0))] [(1, some (bx (jE q1)))] (zE (kD l_one) <| zN (uQ 1 uY uZ) <| zT (kZ kK) <| zZ) ?_
 refine jA <| jA <| kx [(14, (vl tau 1 jP ws)), (15, (jQ ws.length)), (16, (jQ 0))] [] (zM <| zE (xA uT) <| zM <| zZ) ?_
 refine jH <| kH (α := Nat) (fun k => ⟨[(0, (vl 56 6 jK es)), (4, (.ref 0 0)), (6, (.ref 1 0)), (14, (vl tau 1 jP ws)), (15, (jQ ws.length)), (16, (jQ k))], [(0, some (bx (jE (jB.mk 0 0 0 0)))), (1, some (bx (jE (arV es ws k))))]⟩) (fun k => k ≤ ws.length ∧ arUp es ws k) (fun k => ws.length - k) 0 wk ⟨Nat.zero_le _, arUp_0 _ _⟩ ?_
 rintro k ⟨hk, hv⟩
 refine jA <| kx [(17, (vb (decide (((k : Nat) : Int) < ((ws.length : Nat) : Int)))))] [] (zE uP <| zZ) ?_
 refine jA <| jG rfl (fun h1 => ?_) (fun h1 => ?_)
 ·replace h1 := of_decide_eq_true h1
  refine jF <| jA <| jH <| jA <| kx [(8, (vi (ws.getD k 0)))] [] (zE (yO uT k (0 : Int)) <| zE (nB qA) <| zM <| zZ) ?_
  refine jA <| kx [(11, (.ref 2 0)), (12, (vi 0))] [(2, some (bx (jE (stQ es (ws.getD k 0)))))] (zM <| zM <| zE (kD (l_step es (ws.getD k 0) hb htk (wIn_at hw (by omega)))) <| zM <| zE qG <| zE qG <| zE qG <| zE qG <| zN (uQ 2 uY uZ) <| zM <| zM <| zT (kZ kK) <| zM <| zZ) ?_
  refine jA <| jA <| kx [(29, (vb true))] [] (zM <| zE (xH true gF) <| zZ) ?_
  refine qM ?_
  refine kx [(12, (jQ (qC (kB (stQ es (ws.getD k 0)) (arV es ws k)))))] [(1, some (bx (jE (qV (kB (stQ es (ws.getD k 0)) (arV es ws k))))))] (zR (kT kK) <| zR (kT kK) <| zE (kD (l_mul (stQ es (ws.getD k 0)) (arV es ws k) (stQ_ok htk (wIn_at hw (by omega))) (arV_ok htk hw (by omega) hv))) <| zM <| zE qG <| zE qG <| zT (kZ kK) <| zM <| zZ) ?_
  refine jA <| kx [(37, (vb ((((qC (kB (stQ es (ws.getD k 0)) (arV es ws k))) : Nat) : Int) != ((0 : Nat) : Int))))] [] (zM <| zE cG <| zZ) ?_
  refine jG rfl (fun h2 => ?_) (fun h2 => ?_)
  ·replace h2 := bne_iff_ne.1 h2
   refine jA <| kx [(5, (jQ (qC (kB (stQ es (ws.getD k 0)) (arV es ws k)))))] [(0, some (bx (jE (jB.mk 0 0 0 0))))] (zE (eQ cH uY uZ) <| zM <| zT (kZ kK) <| zM <| zZ) ?_
   refine jI ⟨_, (kS (cs := (bx (jE (jB.mk 0 0 0 0)))) (d := (jE (jB.mk 0 0 0 0))) rfl rfl kK rfl rfl (.tmp (d := (.val (.int .i64 ((((qC (kB (stQ es (ws.getD k 0)) (arV es ws k))) : Nat) : Int))))) rfl .nil)), ?_⟩
   obtain ⟨q1, q2, q3⟩ := aro_no (k := k) (by omega) (nM h2)
   rw [q1, q2, show qC (kB (stQ es (ws.getD k 0)) (arV es ws k)) = 3 from q3]; rfl
  ·replace h2 := bne_eq_false_iff_eq.1 h2
   refine jF <| kx [(16, (jQ (k + 1)))] [] (zE (qQ (k + 1)) <| zM <| zZ) ?_
   exact ⟨(k + 1), wk, ⟨by omega, arUp_s hv (show qC _ = 0 by omega)⟩, (by omega)⟩
 ·replace h1 := of_decide_eq_false h1
  refine jW <| jA <| kx [(5, (jQ 0))] [(0, some (bx (jE (arV es ws k))))] (zR (kT kK) <| zT (kZ kK) <| zM <| zZ) ?_
  refine jI ⟨_, (kS (cs := (bx (jE (arV es ws k)))) (d := (jE (arV es ws k))) rfl rfl kK rfl rfl (.tmp (d := (.val (.int .i64 (((0 : Nat) : Int))))) rfl .nil)), ?_⟩
  obtain ⟨q1, q2⟩ := aro_yes (by omega) hv
  rw [q1, q2]; rfl
theorem l8_under (p : jB) (q : jB) (hp : cQ p) (hq : cQ q) : jZ Tryz.prog 48 [(jE p), (jE q)] (.tup [(jE (qV (kB (qV (uD p)) q))), (.val (.int .i64 ((((qC (kB (qV (uD p)) q)) : Nat) : Int))))]) := by
 refine jL Tryz.func48 rfl cb48 rfl ?_
 show qS _ _ _ _ ⟨[(0, (.d (jE p))), (1, (.d (jE q)))], []⟩
 refine jA <| kx [(2, (.ref 0 0)), (3, (.ref 1 0)), (4, (.ref 2 0))] [(0, some (bx (jE p))), (1, some (bx (jE q))), (2, some (bx (jE (jB.mk 0 0 0 0))))] (zN (zL 0) <| zN (zL 1) <| zN (uQ 2 uY uZ) <| zM <| zZ) ?_
 refine jA <| kx [(6, (.ref 3 0)), (7, (jQ (qC (uD p))))] [(3, some (bx (jE (qV (uD p)))))] (zR (kT kK) <| zE (kD (l8_conj p hp)) <| zM <| zE qG <| zE qG <| zN (uQ 3 uY uZ) <| zT (kZ kK) <| zM <| zZ) ?_
 refine jA <| jA <| kx [(14, (vb false))] [] (zM <| zE (xH false cG (by exact bne_eq_false_iff_eq.2 (by rw [show (qC (uD p)) = 0 from (gL hp)]; rfl))) <| zZ) ?_
 refine qN ?_
 refine jF <| jA <| kx [(5, (jQ (qC (kB (qV (uD p)) q))))] [(2, some (bx (jE (qV (kB (qV (uD p)) q)))))] (zR (kT kK) <| zR (kT kK) <| zE (kD (l8_mul (qV (uD p)) q (gU (xK hp.1) (gL hp)) hq)) <| zE qG <| zE qG <| zT (kZ kK) <| zM <| zZ) ?_
 refine jI ⟨_, (kS (cs := (bx (jE (qV (kB (qV (uD p)) q))))) (d := (jE (qV (kB (qV (uD p)) q)))) rfl rfl kK rfl rfl (.tmp (d := (.val (.int .i64 ((((qC (kB (qV (uD p)) q)) : Nat) : Int))))) rfl .nil)), ?_⟩
 rfl
end Go.Proofs.YtihgdjljnaekmaaGreat
namespace Go.Proofs.YtihgdjljnaekmaaGreat
open Go.Fid
set_option maxRecDepth 4000
set_option linter.unusedVariables false
set_option linter.unusedSimpArgs false
theorem cb31 : callB Tryz.prog 31 = true := by kernel_rfl
theorem l_arn (n : Int) (es : List jC) (ws : List Int) (hb : es.length ≤ 1000000) (hbw : ws.length ≤ 1000000) : jZ Tryz.prog 31 [(.val (.int .i64 (n))), (.sl 56 6 (List.map jK es)), (.sl 3 1 (List.map jP ws))] (.tup [(jE (arnV n es ws)), (.val (.int .i64 ((((arnC n es ws) : Nat) : Int))))]) := by
 refine jL Tryz.func31 rfl cb31 rfl ?_
 show qS _ _ _ _ ⟨[(0, (vi n)), (1, (vl 56 6 jK es)), (2, (vl 3 1 jP ws))], []⟩
 refine jA <| kx [(6, (.ref 0 0))] [(0, some (bx (jE (jB.mk 0 0 0 0))))] (zN (uQ 0 uY uZ) <| zM <| zZ) ?_
 refine jA <| jA <| kx [(8, (jQ (qO n es)))] [] (zM <| zM <| zE (kD (l_check n es hb)) <| zM <| zZ) ?_
 refine jA <| kx [(25, (vb ((((qO n es) : Nat) : Int) != 0)))] [] (zM <| zE cG <| zZ) ?_
 refine jG (b := ((((qO n es) : Nat) : Int) != 0)) rfl (fun h1 => ?_) (fun h1 => ?_)
 ·replace h1 := bne_iff_ne.1 h1
  refine jA <| kx [(7, (jQ (qO n es)))] [(0, some (bx (jE (jB.mk 0 0 0 0))))] (zE (eQ cH uY uZ) <| zM <| zT (kZ kK) <| zM <| zZ) ?_
  refine jI ⟨_, (kS (cs := (bx (jE (jB.mk 0 0 0 0)))) (d := (jE (jB.mk 0 0 0 0))) rfl rfl kK rfl rfl (.tmp (d := (.val (.int .i64 ((((qO n es) : Nat) : Int))))) rfl .nil)), ?_⟩
  obtain ⟨q1, q2⟩ := arn_n (ws := ws) (nM h1)
  rw [q1, q2]; rfl
 ·replace h1 := bne_eq_false_iff_eq.1 h1
  have hc0 : qO n es = 0 := by omega
  obtain ⟨_, _, hl2, heo⟩ := lopC_0 hc0
  have htk := heo.tok
  refine jF <| jA <| jA <| kx [(30, (vb (decide (256 < ((ws.length : Nat) : Int)))))] [] (zM <| zE (xA uT) <| zE mZ <| zZ) ?_
  refine jG (b := decide (256 < ((ws.length : Nat) : Int))) rfl (fun h2 => ?_) (fun h2 => ?_)
  ·replace h2 := of_decide_eq_true h2
   refine jA <| kx [(7, (jQ 9))] [(0, some (bx (jE (jB.mk 0 0 0 0))))] (zE (eQ cH uY uZ) <| zT (kZ kK) <| zM <| zZ) ?_
   refine jI ⟨_, (kS (cs := (bx (jE (jB.mk 0 0 0 0)))) (d := (jE (jB.mk 0 0 0 0))) rfl rfl kK rfl rfl (.tmp (d := (.val (.int .i64 (9)))) rfl .nil)), ?_⟩
   obtain ⟨q1, q2⟩ := arn_0 (ws := ws) hc0
   obtain ⟨q3, q4⟩ := ard_9 (es := es) (ws := ws) (by omega)
   rw [q1, q2, q3, q4]; rfl
  ·replace h2 := of_decide_eq_false h2
   refine jF <| jA <| jA <| kx [(32, (vl 3 1 jP ws)), (33, (jQ ws.length)), (34, (jQ 0))] [] (zM <| zE (xA uT) <| zM <| zZ) ?_
   refine jH <| kH (α := Nat) (fun m => ⟨[(1, (vl 56 6 jK es)), (2, (vl 3 1 jP ws)), (6, (.ref 0 0)), (32, (vl 3 1 jP ws)), (33, (jQ ws.length)), (34, (jQ m))], [(0, some (bx (jE (jB.mk 0 0 0 0))))]⟩) (fun m => m ≤ ws.length ∧ inUp es ws m) (fun m => ws.length - m) 0 wk ⟨Nat.zero_le _, fun i hi => by omega⟩ ?_
   rintro m ⟨hm, hvinUp⟩
   refine jA <| kx [(35, (vb (decide (((m : Nat) : Int) < ((ws.length : Nat) : Int)))))] [] (zE uP <| zZ) ?_
   refine jA <| jG rfl (fun h3 => ?_) (fun h3 => ?_)
   ·replace h3 := of_decide_eq_true h3
    refine jF <| jA <| jH <| jA <| kx [(10, (vi (ws.getD m 0)))] [] (zE (yO uT m (0 : Int)) <| zE (nB qA) <| zM <| zZ) ?_
    refine jA <| kx [(48, (vb (decide (((es.length : Nat) : Int) ≤ (ws.getD m 0)) || decide ((ws.getD m 0) < -((es.length : Nat) : Int)))))] [] ?_ ?_
    ·refine zM <| zM <| zE (xA gQ) <| zE oGe <| zE (oV (vb (decide (((es.length : Nat) : Int) ≤ (ws.getD m 0)))) (kP (by kernel_rfl))) <| ?_
     rcases hb4 : (decide (((es.length : Nat) : Int) ≤ (ws.getD m 0))) with _ | _
     ·replace hb4 := of_decide_eq_false hb4
      exact zM <| zM <| zE (xA gQ) <| zE (oNg (-((es.length : Nat) : Int)) (hr := by exact (qK (by first | omega | rfl | (dsimp only; omega)) (by simp only [xN]; omega) (by simp only [xO]; omega)))) <| zE uP <| zE nI <| zZ
     ·replace hb4 := of_decide_eq_true hb4
      exact zK <| zK <| zK <| zK <| zK <| zE vR <| zZ
    refine jG rfl (fun h5 => ?_) (fun h5 => ?_)
    ·refine jA <| kx [(7, (jQ 2))] [(0, some (bx (jE (jB.mk 0 0 0 0))))] (zE (eQ cH uY uZ) <| zT (kZ kK) <| zM <| zZ) ?_
     refine jI ⟨_, (kS (cs := (bx (jE (jB.mk 0 0 0 0)))) (d := (jE (jB.mk 0 0 0 0))) rfl rfl kK rfl rfl (.tmp (d := (.val (.int .i64 (2)))) rfl .nil)), ?_⟩
     obtain ⟨q1, q2⟩ := arn_0 (ws := ws) hc0
     obtain ⟨q3, q4⟩ := ard_2 (by omega) (inUp_no (k := m) (by omega) (exB_t h5))
     rw [q1, q2, q3, q4]; rfl
    ·refine jF <| kx [(34, (jQ (m + 1)))] [] (zE (qQ (m + 1)) <| zM <| zZ) ?_
     exact ⟨(m + 1), wk, ⟨by omega, inUp_s hvinUp (exB_f h5)⟩, (by omega)⟩
   ·replace h3 := of_decide_eq_false h3
    have hw := inUp_end (by omega) hvinUp
    refine jW <| jA <| jA <| kx [(51, (vl 3 1 jP ws)), (52, (jQ ws.length)), (53, (jQ 0))] [] (zM <| zE (xA uT) <| zM <| zZ) ?_
    refine jH <| kH (α := Nat) (fun m => ⟨[(1, (vl 56 6 jK es)), (2, (vl 3 1 jP ws)), (6, (.ref 0 0)), (51, (vl 3 1 jP ws)), (52, (jQ ws.length)), (53, (jQ m))], [(0, some (bx (jE (jB.mk 0 0 0 0))))]⟩) (fun m => m ≤ ws.length ∧ cbUp es ws m) (fun m => ws.length - m) 0 wk ⟨Nat.zero_le _, fun i hi => by omega⟩ ?_
    rintro m ⟨hm, hvcbUp⟩
    refine jA <| kx [(54, (vb (decide (((m : Nat) : Int) < ((ws.length : Nat) : Int)))))] [] (zE uP <| zZ) ?_
    refine jA <| jG rfl (fun h6 => ?_) (fun h6 => ?_)
    ·replace h6 := of_decide_eq_true h6
     refine jF <| jA <| jH <| jA <| kx [(11, (jQ m)), (12, (vi (ws.getD m 0)))] [] (zM <| zE (yO uT m (0 : Int)) <| zE (nB qA) <| zM <| zM <| zZ) ?_
     refine jA <| kx [(13, (vi (stF es (ws.getD m 0))))] [(1, none)] (zM <| zM <| zE (kD (l_step es (ws.getD m 0) hb htk (wIn_at hw (by omega)))) <| zM <| zE qG <| zE qG <| zE qG <| zE qG <| zN (uQ 1 uY uZ) <| zM <| zM <| zT (kZ kK) <| zM <| zZ) ?_
     refine jA <| kx [(18, (vi (stT es (ws.getD ((m + ws.length - 1) % ws.length) 0))))] [(2, none)] (zM <| zM <| zM <| zM <| zE (xA uT) <| zE (qQ (m + ws.length)) <| zE (oSb (m + ws.length - 1)) <| zM <| zE (xA uT) <| zE (oRe ((m + ws.length - 1) % ws.length)) <| zE (yO uT ((m + ws.length - 1) % ws.length) (0 : Int) (hj := by first | omega | exact Nat.mod_lt _ (by omega)) (h1 := by first | omega | exact Nat.mod_lt _ (by omega))) <| zE (nB qA) <| zE (kD (l_step es (ws.getD ((m + ws.length - 1) % ws.length) 0) hb htk (wIn_at hw (Nat.mod_lt _ (by omega))))) <| zM <| zE qG <| zE qG <| zE qG <| zE qG <| zN (uQ 2 uY uZ) <| zM <| zM <| zT (kZ kK) <| zM <| zZ) ?_
     refine jA <| kx [(86, (vb ((stF es (ws.getD m 0)) != (stT es (ws.getD ((m + ws.length - 1) % ws.length) 0)))))] [] (zM <| zM <| zE cG <| zZ) ?_
     refine jG rfl (fun h7 => ?_) (fun h7 => ?_)
     ·replace h7 := bne_iff_ne.1 h7
      refine jA <| kx [(7, (jQ 5))] [(0, some (bx (jE (jB.mk 0 0 0 0))))] (zE (eQ cH uY uZ) <| zT (kZ kK) <| zM <| zZ) ?_
      refine jI ⟨_, (kS (cs := (bx (jE (jB.mk 0 0 0 0)))) (d := (jE (jB.mk 0 0 0 0))) rfl rfl kK rfl rfl (.tmp (d := (.val (.int .i64 (5)))) rfl .nil)), ?_⟩
      obtain ⟨q1, q2⟩ := arn_0 (ws := ws) hc0
      obtain ⟨q3, q4⟩ := ard_5 (by omega) hw (cb_no (k := m) (by omega) h7)
      rw [q1, q2, q3, q4]; rfl
     ·replace h7 := bne_eq_false_iff_eq.1 h7
      refine jF <| kx [(53, (jQ (m + 1)))] [] (zE (qQ (m + 1)) <| zM <| zZ) ?_
      exact ⟨(m + 1), wk, ⟨by omega, up_s hvcbUp h7⟩, (by omega)⟩
    ·replace h6 := of_decide_eq_false h6
     refine jW <| jA <| kx [(7, (jQ (cY es ws)))] [(0, some (bx (jE (aroV es ws))))] (zM <| zM <| zE (kD (l_aro es 3 ws hb hbw htk hw)) <| zE qG <| zE qG <| zT (kZ kK) <| zM <| zZ) ?_
     refine jI ⟨_, (kS (cs := (bx (jE (aroV es ws)))) (d := (jE (aroV es ws))) rfl rfl kK rfl rfl (.tmp (d := (.val (.int .i64 ((((cY es ws) : Nat) : Int))))) rfl .nil)), ?_⟩
     obtain ⟨q1, q2⟩ := arn_0 (ws := ws) hc0
     obtain ⟨q3, q4⟩ := ard_y (by omega) hw (clP_back.2 (fun i hi => hvcbUp i (by omega)))
     rw [q1, q2, q3, q4]; rfl
end Go.Proofs.YtihgdjljnaekmaaGreat
set_option linter.unusedVariables false
set_option linter.unusedSimpArgs false
namespace Go.Fid
def jnB (p q a b : Int) : Bool := ((p == a) && (q == b)) || ((p == b) && (q == a))
def hsB (p q a : Int) : Bool := (p == a) || (q == a)
def alI (p node k : Int) : Int := if p = node then k else -1 - k
def pTr (a b p q r s : Int) : Bool :=
  if jnB p q a b = true then false else if hsB p q b = true then jnB r s (a + b - b) (p + q - b) else if hsB p q a = true then jnB r s (a + b - a) (p + q - a) else false
def pWk (a b p q r s j k : Int) : Int × Int :=
  if hsB p q b = true then (alI p b j, alI r (p + q - b) k) else (alI r b k, alI p (p + q - a) j)
def trB (es : List jC) (i j k : Nat) : Bool := pTr (es.getD i e0).fr (es.getD i e0).to_ (es.getD j e0).fr (es.getD j e0).to_ (es.getD k e0).fr (es.getD k e0).to_
def dV (es : List jC) (i j k : Nat) : Int × Int := pWk (es.getD i e0).fr (es.getD i e0).to_ (es.getD j e0).fr (es.getD j e0).to_ (es.getD k e0).fr (es.getD k e0).to_ ((j : Nat) : Int) ((k : Nat) : Int)
theorem bn_t {b : Bool} (h : (!b) = true) : b = false := by simpa using h
theorem bn_f {b : Bool} (h : (!b) = false) : b = true := by simpa using h
theorem t_push {α β : Type} {f : α → β} {L : List α} {out : List β} {x : α} {y : β} (h : out = List.map f L) (e : y = f x) : out ++ [y] = List.map f (L ++ [x]) := by rw [h, e, List.map_append]; rfl
abbrev T3 := Nat × Nat × Nat
def tIn (es : List jC) (i j K : Nat) : List T3 := ((List.range K).filter fun m => decide (j < m) && trB es i j m).map fun m => (i, j, m)
def tMid (es : List jC) (i J : Nat) : List T3 := (List.range J).flatMap fun m => if i < m then tIn es i m es.length else []
def tAll (es : List jC) (I : Nat) : List T3 := (List.range I).flatMap fun m => tMid es m es.length
def jU (es : List jC) : List T3 := tAll es es.length
theorem tIn_0 (es : List jC) (i j : Nat) : tIn es i j (j + 1) = [] := by
  unfold tIn
  rw [List.map_eq_nil_iff, List.filter_eq_nil_iff]
  intro m hm
  simp at hm ⊢; intro h; omega
theorem tIn_y {es : List jC} {i j K : Nat} (h : j < K) (hb : trB es i j K = true) : tIn es i j (K + 1) = tIn es i j K ++ [(i, j, K)] := by
  unfold tIn
  rw [List.range_succ, List.filter_append, List.map_append]
  simp [h, hb]
theorem tIn_n {es : List jC} {i j K : Nat} (hb : trB es i j K = false) : tIn es i j (K + 1) = tIn es i j K := by
  unfold tIn
  rw [List.range_succ, List.filter_append, List.map_append]
  simp [hb]
theorem tIn_nil {es : List jC} {i j K : Nat} (h : ∀ m, trB es i j m = false) : tIn es i j K = [] := by
  unfold tIn
  rw [List.map_eq_nil_iff, List.filter_eq_nil_iff]
  intro m hm; simp [h m]
theorem tMid_0 (es : List jC) (i : Nat) : tMid es i (i + 1) = [] := by
  unfold tMid
  rw [List.flatMap_eq_nil_iff]
  intro m hm
  rw [if_neg]; simp at hm; omega
theorem tMid_s {es : List jC} {i J : Nat} (h : i < J) : tMid es i (J + 1) = tMid es i J ++ tIn es i J es.length := by
  unfold tMid
  rw [List.range_succ, List.flatMap_append]
  simp [h]
theorem tAll_s (es : List jC) (I : Nat) : tAll es (I + 1) = tAll es I ++ tMid es I es.length := by
  unfold tAll
  rw [List.range_succ, List.flatMap_append]; simp
theorem tIn_len (es : List jC) (i j K : Nat) : (tIn es i j K).length ≤ K := by
  unfold tIn
  rw [List.length_map]
  exact Nat.le_trans (List.length_filter_le _ _) (by simp)
theorem tMid_len (es : List jC) (i : Nat) : ∀ J, (tMid es i J).length ≤ J * es.length
  | 0 => by simp [tMid]
  | J + 1 => by
    have ih := tMid_len es i J
    have h1 := tIn_len es i J es.length
    unfold tMid at ih ⊢
    rw [List.range_succ, List.flatMap_append, List.length_append, Nat.add_mul]
    have : (if i < J then tIn es i J es.length else []).length ≤ es.length := by
      by_cases h : i < J
      · simp only [h, if_true]; exact h1
      · simp only [h, if_false]; simp
    simp only [List.flatMap_cons, List.flatMap_nil, List.append_nil]
    omega
theorem tAll_len (es : List jC) : ∀ I, (tAll es I).length ≤ I * (es.length * es.length)
  | 0 => by simp [tAll]
  | I + 1 => by
    have ih := tAll_len es I
    have h1 := tMid_len es I es.length
    rw [tAll_s, List.length_append, Nat.add_mul]; omega
theorem t_room {es : List jC} {i j k : Nat} (h : es.length ≤ 256) (hi : i ≤ es.length) (hj : j ≤ es.length) (hk : k ≤ es.length) : (tAll es i ++ tMid es i j ++ tIn es i j k).length ≤ 20000000 := by
  have h1 := tAll_len es i
  have h2 := tMid_len es i j
  have h3 := tIn_len es i j k
  have a1 : es.length * es.length ≤ 256 * 256 := Nat.mul_le_mul h h
  have a2 : i * (es.length * es.length) ≤ 256 * (256 * 256) := Nat.mul_le_mul (by omega) a1
  have a3 : j * es.length ≤ 256 * 256 := Nat.mul_le_mul (by omega) h
  simp only [List.length_append]
  omega
theorem trA {es : List jC} {i j k : Nat} (h1 : jnB (es.getD j e0).fr (es.getD j e0).to_ (es.getD i e0).fr (es.getD i e0).to_ = false) (h2 : hsB (es.getD j e0).fr (es.getD j e0).to_ (es.getD i e0).to_ = true) :
    trB es i j k = jnB (es.getD k e0).fr (es.getD k e0).to_ ((es.getD i e0).fr + (es.getD i e0).to_ - (es.getD i e0).to_) ((es.getD j e0).fr + (es.getD j e0).to_ - (es.getD i e0).to_) ∧
      dV es i j k = (alI (es.getD j e0).fr (es.getD i e0).to_ ((j : Nat) : Int), alI (es.getD k e0).fr ((es.getD j e0).fr + (es.getD j e0).to_ - (es.getD i e0).to_) ((k : Nat) : Int)) := by
  unfold trB pTr dV pWk
  rw [h1, h2]; exact ⟨rfl, rfl⟩
theorem trC {es : List jC} {i j k : Nat} (h1 : jnB (es.getD j e0).fr (es.getD j e0).to_ (es.getD i e0).fr (es.getD i e0).to_ = false) (h2 : hsB (es.getD j e0).fr (es.getD j e0).to_ (es.getD i e0).to_ = false) (h3 : hsB (es.getD j e0).fr (es.getD j e0).to_ (es.getD i e0).fr = true) :
    trB es i j k = jnB (es.getD k e0).fr (es.getD k e0).to_ ((es.getD i e0).fr + (es.getD i e0).to_ - (es.getD i e0).fr) ((es.getD j e0).fr + (es.getD j e0).to_ - (es.getD i e0).fr) ∧
      dV es i j k = (alI (es.getD k e0).fr (es.getD i e0).to_ ((k : Nat) : Int), alI (es.getD j e0).fr ((es.getD j e0).fr + (es.getD j e0).to_ - (es.getD i e0).fr) ((j : Nat) : Int)) := by
  unfold trB pTr dV pWk
  rw [h1, h2, h3]; exact ⟨rfl, rfl⟩
theorem trN1 {es : List jC} {i j k : Nat} (h1 : jnB (es.getD j e0).fr (es.getD j e0).to_ (es.getD i e0).fr (es.getD i e0).to_ = true) : trB es i j k = false := by
  unfold trB pTr; rw [h1]; rfl
theorem trN2 {es : List jC} {i j k : Nat} (h2 : hsB (es.getD j e0).fr (es.getD j e0).to_ (es.getD i e0).to_ = false) (h3 : hsB (es.getD j e0).fr (es.getD j e0).to_ (es.getD i e0).fr = false) : trB es i j k = false := by
  unfold trB pTr; rw [h2, h3]; split <;> rfl
end Go.Fid
set_option linter.unusedVariables false
set_option linter.unusedSimpArgs false
namespace Go.Fid
abbrev zQ : jB := ⟨0, 0, 0, 0⟩
def nV (n : Nat) (es : List jC) : List Int := kN true n es es.length
theorem q_nz {q : jB} (h : eO q) : q ≠ zQ := qnz_iff.1 h
section
variable {n : Nat} {es : List jC}
theorem fJ (h : vS n es) (j : Nat) : eO (aV n es j) := tV_nz h (Nat.le_refl _) j
theorem aV_sat (h : vS n es) {i : Nat} (hi : (i : Int) ∈ jO n es) : yG (aV n es (es.getD i e0).fr.toNat) (kB (aV n es (es.getD i e0).to_.toNat) (es.getD i e0).turn) := tV_sat h (Nat.le_refl _) hi
theorem aV_back (h : vS n es) {i : Nat} (hi : (i : Int) ∈ jO n es) (hl : i < es.length) : yG (kB (aV n es (es.getD i e0).fr.toNat) (uD (es.getD i e0).turn)) (aV n es (es.getD i e0).to_.toNat) := by
  have hx := mY h hl
  refine ((aV_sat h hi).mul (yG.refl _)).trans ?_
  rw [vC, qmul_cj, nA, qmul_1]
  exact yG.sc (mT.1 hx.q.1) _
theorem ab_yes (h : vS n es) {j : Nat} {u : jB} (hu : eO u) (he : yG u (aV n es j)) (hc : qC u = 0) : cE (zV (aV n es j)) ∧ qV u = zV (aV n es j) := by
  have e := (qcan_iff hu (fJ h j)).2 he
  have hf := qC_0.1 hc
  rw [e] at hf
  exact ⟨hf, by rw [qV_c0 hc, e]⟩
theorem ab_no (h : vS n es) {j : Nat} {u : jB} (hj : j < n) (hu : eO u) (he : yG u (aV n es j)) (hc : qC u ≠ 0) : yH n es = 3 ∧ uL n es = [] ∧ qC u = 3 := by
  have e := (qcan_iff hu (fJ h j)).2 he
  have hn : ¬ aFit n es := fun hf => hc (qC_0.2 (by rw [e]; exact hf j hj))
  exact ⟨if_neg hn, if_neg hn, (qC_01 u).resolve_left hc⟩
def qZ (out : List jB) (j : Nat) : jB := out.getD j zQ
def AbI (n : Nat) (es : List jC) (out : List jB) : Prop := out.length = n ∧ ∀ j, j < n → qZ out j = zQ ∨ (cE (zV (aV n es j)) ∧ qZ out j = zV (aV n es j))
theorem AbI.at (h : vS n es) {out : List jB} (ho : AbI n es out) {j : Nat} (hj : j < n) (hz : qZ out j ≠ zQ) : cQ (qZ out j) ∧ qZ out j = zV (aV n es j) := by
  rcases ho.2 j hj with e | ⟨e1, e2⟩
  · exact absurd e hz
  · rw [e2]; exact ⟨⟨qcan_nz (fJ h j), e1⟩, rfl⟩
theorem fF {out : List jB} {i j : Nat} {v : jB} (hi : i < out.length) : qZ (out.set i v) j = if i = j then v else qZ out j := by
  unfold qZ
  by_cases e : i = j
  · subst e; rw [if_pos rfl, List.getD_eq_getElem?_getD, List.getElem?_set_self hi]; rfl
  · rw [if_neg e, List.getD_eq_getElem?_getD, List.getElem?_set_ne e, ← List.getD_eq_getElem?_getD]
theorem AbI.set {out : List jB} (ho : AbI n es out) {j : Nat} {v : jB} (hj : j < n) (h1 : cE (zV (aV n es j))) (h2 : v = zV (aV n es j)) : AbI n es (out.set j v) := by
  refine ⟨by rw [List.length_set]; exact ho.1, fun i hi => ?_⟩
  rw [fF (by rw [ho.1]; exact hj)]
  split
  · rename_i e; subst e; exact .inr ⟨h1, h2⟩
  · exact ho.2 i hi
def zq (out : List jB) : Nat := out.countP fun q => decide (q = zQ)
theorem zq_set {out : List jB} {j : Nat} {v : jB} (hj : j < out.length) (h1 : qZ out j = zQ) (h2 : v ≠ zQ) : zq (out.set j v) < zq out := by
  unfold zq
  have hv : decide (v = zQ) = false := decide_eq_false h2
  have : ∀ (l : List jB) (j : Nat), j < l.length → l.getD j zQ = zQ → (l.set j v).countP (fun q => decide (q = zQ)) < l.countP fun q => decide (q = zQ) := by
    intro l
    induction l with
    | nil => intro j hj; simp at hj
    | cons x l ih =>
      intro j hj hx
      cases j with
      | zero =>
        simp only [List.getD_cons_zero] at hx
        subst hx
        rw [List.set_cons_zero, List.countP_cons, List.countP_cons, if_neg (by rw [hv]; simp), if_pos (by simp)]; omega
      | succ j =>
        simp only [List.getD_cons_succ] at hx
        rw [List.set_cons_succ, List.countP_cons, List.countP_cons]
        have := ih j (by simpa using hj) hx
        omega
  exact this out j hj h1
theorem ab_all (h : vS n es) {out : List jB} (ho : AbI n es out) (hr : ∀ j, j < n → (nV n es).getD j 0 = j → qZ out j ≠ zQ)
    (hc : ∀ i : Nat, (i : Int) ∈ jO n es → (qZ out (es.getD i e0).fr.toNat ≠ zQ ↔ qZ out (es.getD i e0).to_.toNat ≠ zQ)) : out = uL n es ∧ yH n es = 0 := by
  have hall : ∀ j, j < n → qZ out j ≠ zQ := fun j hj => by
    have rj := nO h (Nat.le_refl es.length) hj
    have e1 := tPar_root h (Nat.le_refl es.length) hj
    have hrn : ((kN true n es es.length).getD j 0).toNat < n := by omega
    have h1 := hr _ hrn (by unfold nV; omega)
    exact (mX h (fun i => qZ out i ≠ zQ) (Nat.le_refl es.length) hc hrn hj e1).1 h1
  have hf : aFit n es := fun j hj => by
    rcases ho.2 j hj with e | ⟨e1, _⟩
    · exact absurd e (hall j hj)
    · exact e1
  refine ⟨?_, if_pos hf⟩
  unfold uL
  rw [if_pos hf]
  apply List.ext_getElem?
  intro j
  by_cases hj : j < n
  · have e := (ho.at h hj (hall j hj)).2
    unfold qZ at e
    rw [List.getD_eq_getElem?_getD, List.getElem?_eq_getElem (by rw [ho.1]; exact hj)] at e
    rw [List.getElem?_eq_getElem (by rw [ho.1]; exact hj), List.getElem?_map, List.getElem?_range hj]
    exact congrArg some e
  · rw [List.getElem?_eq_none (by rw [ho.1]; omega), List.getElem?_eq_none (by simp; omega)]
theorem ab_fwd (h : vS n es) {out : List jB} (ho : AbI n es out) {i : Nat} (hi : (i : Int) ∈ jO n es) (hl : i < es.length) (hz : qZ out (es.getD i e0).fr.toNat ≠ zQ) :
    eO (kB (qZ out (es.getD i e0).fr.toNat) (qV (uD (es.getD i e0).turn))) ∧ yG (kB (qZ out (es.getD i e0).fr.toNat) (qV (uD (es.getD i e0).turn))) (aV n es (es.getD i e0).to_.toNat) := by
  have hx := mY h hl
  have hf : (es.getD i e0).fr.toNat < n := by have := hx.f0; have := hx.f1; omega
  obtain ⟨g1, g2⟩ := ho.at h hf hz
  have e := qV_eq (xK hx.q.1) (gL hx.q)
  refine ⟨xB g1.1 (e.symm.nz (xK hx.q.1)), ?_⟩
  refine yG.trans ?_ (aV_back h hi hl)
  rw [g2]
  exact (cP (fJ h _)).mul e
theorem ab_bwd (h : vS n es) {out : List jB} (ho : AbI n es out) {i : Nat} (hi : (i : Int) ∈ jO n es) (hl : i < es.length) (hz : qZ out (es.getD i e0).to_.toNat ≠ zQ) :
    eO (kB (qZ out (es.getD i e0).to_.toNat) (es.getD i e0).turn) ∧ yG (kB (qZ out (es.getD i e0).to_.toNat) (es.getD i e0).turn) (aV n es (es.getD i e0).fr.toNat) := by
  have hx := mY h hl
  have hf : (es.getD i e0).to_.toNat < n := by have := hx.t0; have := hx.t1; omega
  obtain ⟨g1, g2⟩ := ho.at h hf hz
  refine ⟨xB g1.1 hx.q.1, ?_⟩
  refine yG.trans ?_ (aV_sat h hi).symm
  rw [g2]
  exact (cP (fJ h _)).mul (yG.refl _)
end
def AbR (n : Nat) (es : List jC) (out : List jB) : Prop := AbI n es out ∧ ∀ j, j < n → (nV n es).getD j 0 = j → qZ out j ≠ zQ
def clE (es : List jC) (out : List jB) (i : Nat) : Prop := qZ out (es.getD i e0).fr.toNat ≠ zQ ↔ qZ out (es.getD i e0).to_.toNat ≠ zQ
def AbC (es : List jC) (tk : List Int) (out : List jB) (m : Nat) : Prop := ∀ q, q < m → clE es out (tk.getD q 0).toNat
def AbW (n : Nat) (es : List jC) (tk : List Int) (o0 out : List jB) (ag : Bool) (m : Nat) : Prop := AbR n es out ∧ (ag = true → zq out < zq o0) ∧ (ag = false → out = o0 ∧ AbC es tk out m)
section
variable {n : Nat} {es : List jC} {tk : List Int} {o0 out : List jB} {ag : Bool} {m : Nat}
theorem AbW.skip (h : AbW n es tk o0 out ag m) (hc : clE es out (tk.getD m 0).toNat) : AbW n es tk o0 out ag (m + 1) := by
  refine ⟨h.1, h.2.1, fun e => ⟨(h.2.2 e).1, fun q hq => ?_⟩⟩
  by_cases hqm : q = m
  · subst hqm; exact hc
  · exact (h.2.2 e).2 q (by omega)
theorem AbW.zq_le (h : AbW n es tk o0 out ag m) : zq out ≤ zq o0 := by
  cases hag : ag with
  | true => exact Nat.le_of_lt (h.2.1 hag)
  | false => rw [(h.2.2 hag).1]; exact Nat.le_refl _
theorem AbW.put (h : AbW n es tk o0 out ag m) {j m' : Nat} {v : jB} (hj : j < n) (hz : qZ out j = zQ) (hv : v ≠ zQ) (h1 : cE (zV (aV n es j))) (h2 : v = zV (aV n es j)) : AbW n es tk o0 (out.set j v) true m' := by
  have hl : j < out.length := by rw [h.1.1.1]; exact hj
  refine ⟨⟨h.1.1.set hj h1 h2, fun i hi hr => ?_⟩, fun _ => Nat.lt_of_lt_of_le (zq_set hl hz hv) h.zq_le, fun e => by cases e⟩
  rw [fF hl]
  split
  · exact hv
  · exact h.1.2 i hi hr
theorem tre_at {k : Nat} (hk : k < (jO n es).length) : ∃ i : Nat, i < es.length ∧ (jO n es).getD k 0 = i ∧ (i : Int) ∈ jO n es := by
  have hm : (jO n es).getD k 0 ∈ jO n es := by
    rw [List.getD_eq_getElem?_getD, List.getElem?_eq_getElem hk]; exact List.getElem_mem hk
  obtain ⟨i, h1, h2⟩ := nT hm
  exact ⟨i, h1, h2, h2 ▸ hm⟩
end
theorem parL_len (n : Nat) (es : List jC) : (nV n es).length = n := yE _ _ _ _
theorem q1_nz : q1 ≠ zQ := by decide
theorem can_nzq {n : Nat} {es : List jC} (h : vS n es) (j : Nat) : zV (aV n es j) ≠ zQ := q_nz (qcan_nz (fJ h j))
end Go.Fid
