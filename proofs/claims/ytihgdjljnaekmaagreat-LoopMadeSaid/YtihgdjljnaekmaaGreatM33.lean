/- Part 33 of a proof: rules, plain facts, and functions walked. -/
import Derived.Test.YtihgdjljnaekmaaGreatM32
import Derived.Test.YtihgdjljnaekmaaGreatM28
import Derived.Test.YtihgdjljnaekmaaGreatM8
namespace Go.Proofs.YtihgdjljnaekmaaGreat
open Go.Fid
set_option maxRecDepth 4000
set_option linter.unusedVariables false
set_option linter.unusedSimpArgs false
theorem cb20 : callB Tryz.prog 20 = true := by kernel_rfl
theorem cb69 : callB Tryz.prog 69 = true := by kernel_rfl
theorem pl56 : aC Tryz.prog 56 = some [(0, 1), (1, 1), (2, 4)] := by kernel_rfl
def dG : List jC := [jC.mk 0 1 (jB.mk 1 0 0 1), jC.mk 1 2 (jB.mk 1 1 0 0), jC.mk 0 2 (jB.mk 1 1 0 0)]
theorem l_exa  : jZ Tryz.prog 69 [] (.sl 56 6 (List.map jK dG)) := by
 refine jL Tryz.func69 rfl cb69 rfl ?_
 show qS _ _ _ _ ⟨[], []⟩
 refine jA <| kx [] [] (zE (oNl 56 6) <| zZ) ?_
 refine jA <| kx [(0, (vl 56 6 jK [(jC.mk 0 1 (jB.mk 1 0 0 1)), (jC.mk 1 2 (jB.mk 1 1 0 0)), (jC.mk 0 2 (jB.mk 1 1 0 0))]))] [] (zE (eQ cH uY uZ) <| zE (eQ pl56 fK zo56) <| zE (eQ cH uY uZ) <| zE (eQ pl56 fK zo56) <| zE (eQ cH uY uZ) <| zE (eQ pl56 fK zo56) <| zE (aA gQ fK zo56) <| zM <| zZ) ?_
 refine jI ⟨_, (.tmp (d := (.sl 56 6 (List.map jK [(jC.mk 0 1 (jB.mk 1 0 0 1)), (jC.mk 1 2 (jB.mk 1 1 0 0)), (jC.mk 0 2 (jB.mk 1 1 0 0))]))) rfl .nil), ?_⟩
 rfl
theorem kn1 : okL (qO ((3 : Nat) : Int) dG) (jO (Int.toNat ((3 : Nat) : Int)) dG) = [0, 1] := by decide +kernel
theorem nY : qO ((3 : Nat) : Int) dG = 0 := by decide +kernel
theorem kn2 : okL (qO ((3 : Nat) : Int) dG) (uL (Int.toNat ((3 : Nat) : Int)) dG) = [jB.mk 1 0 0 0, jB.mk 1 0 0 (-1), jB.mk 1 (-1) 1 (-1)] := by decide +kernel
theorem kn3 : okC (qO ((3 : Nat) : Int) dG) (yH (Int.toNat ((3 : Nat) : Int)) dG) = 0 := by decide +kernel
theorem kn4 : arnV ((3 : Nat) : Int) dG [((0 : Nat) : Int), ((1 : Nat) : Int), -3] = jB.mk 1 0 0 1 := by decide +kernel
theorem kn5 : arnC ((3 : Nat) : Int) dG [((0 : Nat) : Int), ((1 : Nat) : Int), -3] = 0 := by decide +kernel
theorem kn8 : okL (qO ((3 : Nat) : Int) dG) (jU dG) = [(0, 1, 2)] := by decide +kernel
theorem knS : seC dG = 0 := by decide +kernel
theorem kn6s : slB (Rat.divInt 1 3) = false := by decide +kernel
theorem kn6v : selL (vts (Rat.divInt 1 3) dG (jU dG)) = [] := by decide +kernel
theorem kn6b : slC ((3 : Nat) : Int) dG (yP (Rat.divInt 1 3)) (Rat.divInt 1 3) = 0 := by
 obtain ⟨q1, q2⟩ := sld_0 (es := dG) (x := yP (Rat.divInt 1 3)) (p := (Rat.divInt 1 3)) (dQ _) kn6s knS
 unfold slC; rw [fM nY, q1]
theorem kn6 : slV ((3 : Nat) : Int) dG (yP (Rat.divInt 1 3)) (Rat.divInt 1 3) = [] := by
 obtain ⟨q1, q2⟩ := sld_0 (es := dG) (x := yP (Rat.divInt 1 3)) (p := (Rat.divInt 1 3)) (dQ _) kn6s knS
 unfold slV; rw [okL_0 nY, q2, kn6v]
theorem kn7s : slB (Rat.divInt 1 2) = false := by decide +kernel
theorem kn7v : selL (vts (Rat.divInt 1 2) dG (jU dG)) = [0, 1, 2] := by decide +kernel
theorem kn7b : slC ((3 : Nat) : Int) dG (yP (Rat.divInt 1 2)) (Rat.divInt 1 2) = 0 := by
 obtain ⟨q1, q2⟩ := sld_0 (es := dG) (x := yP (Rat.divInt 1 2)) (p := (Rat.divInt 1 2)) (dQ _) kn7s knS
 unfold slC; rw [fM nY, q1]
theorem kn7 : slV ((3 : Nat) : Int) dG (yP (Rat.divInt 1 2)) (Rat.divInt 1 2) = [0, 1, 2] := by
 obtain ⟨q1, q2⟩ := sld_0 (es := dG) (x := yP (Rat.divInt 1 2)) (p := (Rat.divInt 1 2)) (dQ _) kn7s knS
 unfold slV; rw [okL_0 nY, q2, kn7v]
theorem l_known  : jZ Tryz.prog 20 [] (.val (.bool (true))) := by
 refine jL Tryz.func20 rfl cb20 rfl ?_
 show qS _ _ _ _ ⟨[], []⟩
 refine jA <| kx [] [] (zM <| zZ) ?_
 refine jA <| kx [(1, (vl 3 1 jP [0, 1])), (2, (jQ 0))] [] (zE (kD l_exa) <| zE (kD (l_Tree ((3 : Nat) : Int) dG (by decide +kernel))) <| zM <| zE (oQd (.sl 3 1 (List.map jP (okL (qO ((3 : Nat) : Int) dG) (jO (Int.toNat ((3 : Nat) : Int)) dG)))) (.sl 3 1 (List.map jP [0, 1])) qG (by exact (congrArg (fun l => kE.sl 3 1 (List.map jP l)) kn1))) <| zE (oQd (.val (.int .i64 ((((qO ((3 : Nat) : Int) dG) : Nat) : Int)))) (.val (.int .i64 (((0 : Nat) : Int)))) qG (by exact (congrArg (fun (c : Nat) => kE.val (Value.int IntKind.i64 ((c : Nat) : Int))) nY))) <| zM <| zM <| zZ) ?_
 refine jA <| kx [(3, (vl 28 4 jE [jB.mk 1 0 0 0, jB.mk 1 0 0 (-1), jB.mk 1 (-1) 1 (-1)])), (4, (jQ 0))] [] (zE (kD l_exa) <| zE (kD (l_Abs ((3 : Nat) : Int) dG (by decide +kernel))) <| zM <| zE (oQd (.sl 28 4 (List.map jE (okL (qO ((3 : Nat) : Int) dG) (uL (Int.toNat ((3 : Nat) : Int)) dG)))) (.sl 28 4 (List.map jE [jB.mk 1 0 0 0, jB.mk 1 0 0 (-1), jB.mk 1 (-1) 1 (-1)])) qG (by exact (congrArg (fun l => kE.sl 28 4 (List.map jE l)) kn2))) <| zE (oQd (.val (.int .i64 ((((okC (qO ((3 : Nat) : Int) dG) (yH (Int.toNat ((3 : Nat) : Int)) dG)) : Nat) : Int)))) (.val (.int .i64 (((0 : Nat) : Int)))) qG (by exact (congrArg (fun (c : Nat) => kE.val (Value.int IntKind.i64 ((c : Nat) : Int))) kn3))) <| zM <| zM <| zZ) ?_
 refine jA <| kx [(5, (.ref 0 0)), (6, (jQ 0))] [(0, some (bx (jE (jB.mk 1 0 0 1))))] (zE (kD l_exa) <| zE (aA uT ze3 zo3) <| zE (kD (l_arn ((3 : Nat) : Int) dG [((0 : Nat) : Int), ((1 : Nat) : Int), -3] (by decide +kernel) (by decide +kernel))) <| zM <| zE (oQd (jE (arnV ((3 : Nat) : Int) dG [((0 : Nat) : Int), ((1 : Nat) : Int), -3])) (jE (jB.mk 1 0 0 1)) qG (by exact (congrArg jE kn4))) <| zE (oQd (.val (.int .i64 ((((arnC ((3 : Nat) : Int) dG [((0 : Nat) : Int), ((1 : Nat) : Int), -3]) : Nat) : Int)))) (.val (.int .i64 (((0 : Nat) : Int)))) qG (by exact (congrArg (fun (c : Nat) => kE.val (Value.int IntKind.i64 ((c : Nat) : Int))) kn5))) <| zN (uQ 0 uY uZ) <| zT (kZ kK) <| zM <| zZ) ?_
 refine jA ?_
 have bn1 : QL (Rat.divInt 1 3) 3 := (mL (n := 3) (fA (by omega) (by omega)) (fA (by omega) (by omega)) (by decide))
 refine kx [(7, (.ref 1 0))] [(1, some (bx (kX (yP (Rat.divInt 1 3)))))] (zE (kD (qs_of ((1 : Nat) : Int) (by omega) (by omega) ((3 : Nat) : Int) (by omega) (by omega) (by decide +kernel))) <| zM <| zE qG <| zE qG <| zN (uQ 1 cW dA) <| zT (kZ vP) <| zM <| zZ) ?_
 refine jA ?_
 have bn2 : QL (Rat.divInt 1 2) 3 := (mL (n := 3) (fA (by omega) (by omega)) (fA (by omega) (by omega)) (by decide))
 refine kx [(9, (.ref 2 0))] [(2, some (bx (kX (yP (Rat.divInt 1 2)))))] (zE (kD (qs_of ((1 : Nat) : Int) (by omega) (by omega) ((2 : Nat) : Int) (by omega) (by omega) (by decide +kernel))) <| zM <| zE qG <| zE qG <| zN (uQ 2 cW dA) <| zT (kZ vP) <| zM <| zZ) ?_
 refine jA <| kd [(11, (vl 3 1 jP [])), (12, (jQ 0))] [] mo (wE (kD l_exa) <| wR (kT vP) <| wE (kD (l_Sel ((3 : Nat) : Int) dG (yP (Rat.divInt 1 3)) (Rat.divInt 1 3) (eK (qok_of bn1) (by decide)) (by decide +kernel))) <| wM <| wE (oQd (.sl 3 1 (List.map jP (slV ((3 : Nat) : Int) dG (yP (Rat.divInt 1 3)) (Rat.divInt 1 3)))) (.sl 3 1 (List.map jP [])) qG (by exact (congrArg (fun l => kE.sl 3 1 (List.map jP l)) kn6))) <| wE (oQd (.val (.int .i64 ((((slC ((3 : Nat) : Int) dG (yP (Rat.divInt 1 3)) (Rat.divInt 1 3)) : Nat) : Int)))) (.val (.int .i64 (((0 : Nat) : Int)))) qG (by exact (congrArg (fun (c : Nat) => kE.val (Value.int IntKind.i64 ((c : Nat) : Int))) kn6b))) <| wM <| wM <| wZ) ?_
 refine jA <| kd [(13, (vl 3 1 jP [0, 1, 2])), (14, (jQ 0))] [] mo (wE (kD l_exa) <| wR (kT vP) <| wE (kD (l_Sel ((3 : Nat) : Int) dG (yP (Rat.divInt 1 2)) (Rat.divInt 1 2) (eK (qok_of bn2) (by decide)) (by decide +kernel))) <| wM <| wE (oQd (.sl 3 1 (List.map jP (slV ((3 : Nat) : Int) dG (yP (Rat.divInt 1 2)) (Rat.divInt 1 2)))) (.sl 3 1 (List.map jP [0, 1, 2])) qG (by exact (congrArg (fun l => kE.sl 3 1 (List.map jP l)) kn7))) <| wE (oQd (.val (.int .i64 ((((slC ((3 : Nat) : Int) dG (yP (Rat.divInt 1 2)) (Rat.divInt 1 2)) : Nat) : Int)))) (.val (.int .i64 (((0 : Nat) : Int)))) qG (by exact (congrArg (fun (c : Nat) => kE.val (Value.int IntKind.i64 ((c : Nat) : Int))) kn7b))) <| wM <| wM <| wZ) ?_
 refine jA <| kx [(15, (vl 70 3 kU [A3.mk 0 1 2])), (16, (jQ 0))] [] (zE (kD l_exa) <| zE (kD (l_Tris ((3 : Nat) : Int) dG (by decide +kernel))) <| zM <| zE (oQd (.sl 70 3 (List.map kU (List.map t3 (okL (qO ((3 : Nat) : Int) dG) (jU dG))))) (.sl 70 3 (List.map kU [A3.mk 0 1 2])) qG (by exact (congrArg (fun l => kE.sl 70 3 (List.map kU (List.map t3 l))) kn8))) <| zE (oQd (.val (.int .i64 ((((qO ((3 : Nat) : Int) dG) : Nat) : Int)))) (.val (.int .i64 (((0 : Nat) : Int)))) qG (by exact (congrArg (fun (c : Nat) => kE.val (Value.int IntKind.i64 ((c : Nat) : Int))) nY))) <| zM <| zM <| zZ) ?_
 refine jA <| kx [(0, (vb true))] [] (zM <| zM <| zE (qQ 0 (hr := by decide)) <| zM <| zE (qQ 0 (hr := by decide)) <| zM <| zE (qQ 0 (hr := by decide)) <| zM <| zE (qQ 0 (hr := by decide)) <| zM <| zE (qQ 0 (hr := by decide)) <| zE (xH true gF) <| zM <| zM <| zE (aA uT ze3 zo3) <| zE (xH true (kD (p_eq [0, 1] [((0 : Nat) : Int), ((1 : Nat) : Int)] (by decide +kernel))) (by exact beq_self_eq_true _)) <| zE vR <| zM <| zM <| zE (eQ cH uY uZ) <| zE (eQ cH uY uZ) <| zE (eQ cH uY uZ) <| zE (aA gH uY uZ) <| zE (kD (l_eqQ [jB.mk 1 0 0 0, jB.mk 1 0 0 (-1), jB.mk 1 (-1) 1 (-1)] [(jB.mk ((1 : Nat) : Int) 0 0 0), (jB.mk ((1 : Nat) : Int) 0 0 (-1)), (jB.mk ((1 : Nat) : Int) (-1) ((1 : Nat) : Int) (-1))] (by decide +kernel) rfl)) <| zE vR <| zM <| zR (kT kK) <| zE (eQ cH uY uZ) <| zE (xH true (oEs eqs28 .i64 [(jB.mk 1 0 0 1).a, (jB.mk 1 0 0 1).b, (jB.mk 1 0 0 1).c, (jB.mk 1 0 0 1).d] [((1 : Nat) : Int), 0, 0, ((1 : Nat) : Int)]) (by exact decide_eq_true rfl)) <| zE vR <| zM <| zM <| zE (oLn uT 0) <| zE (xH true gF) <| zE vR <| zM <| zM <| zE (oLn uT 3) <| zE (xH true gF) <| zE vR <| zM <| zM <| zE (oBf ar70 ze70 zo70) <| zE (aA el63 ze70 zo70) <| zE (kD (l_eqT [A3.mk 0 1 2] [(A3.mk ((0 : Nat) : Int) ((1 : Nat) : Int) ((2 : Nat) : Int))] (by decide +kernel) rfl)) <| zE vR <| zM <| zZ) ?_
 refine jI ⟨_, (.tmp (d := (.val (.bool (true)))) rfl .nil), ?_⟩
 rfl
end Go.Proofs.YtihgdjljnaekmaaGreat
set_option linter.unusedVariables false
set_option linter.unusedSimpArgs false
namespace Go.Fid
theorem erC_03 {es : List jC} {ts : List jB} (h : erC es ts ≠ 0) : erC es ts = 3 := by
  unfold erC at h ⊢; split
  · rename_i e; rw [if_pos e] at h; exact absurd rfl h
  · rfl
end Go.Fid
set_option linter.unusedVariables false
set_option linter.unusedSimpArgs false
namespace Go.Fid
def agE (W : Nat → jB) (x : jC) : Prop := yG (W x.fr.toNat) (kB (W x.to_.toNat) x.turn)
def Sol (n : Nat) (es : List jC) (W : Nat → jB) : Prop := (∀ j, j < n → eO (W j)) ∧ ∀ x ∈ es, agE W x
theorem qdiv {p q t : jB} (hq : eO q) (ht : eO t) : yG p (kB q t) ↔ yG (kB (uD q) p) t := by
  constructor
  · intro h
    refine ((yG.refl _).mul h).trans ?_
    rw [← vC, qcj_mul, mE, q1_mul]
    exact yG.sc (mT.1 hq) _
  · intro h
    have e := (yG.refl q).mul h
    rw [← vC, qmul_cj, mE, q1_mul] at e
    exact (yG.sc (mT.1 hq) _).symm.trans e
section
variable {n : Nat} {es : List jC}
theorem eok_lt {x : jC} (h : EOkE n x) : x.fr.toNat < n ∧ x.to_.toNat < n := by
  have := h.f0; have := h.f1; have := h.t0; have := h.t1; omega
theorem absL_at (he : vS n es) (hc : yH n es = 0) {j : Nat} (hj : j < n) : qZ (uL n es) j = zV (aV n es j) := by
  have hf : aFit n es := by
    unfold yH at hc; split at hc
    · assumption
    · cases hc
  have hab : uL n es = (List.range n).map fun j => zV (aV n es j) := if_pos hf
  rw [hab]; unfold qZ; rw [List.getD_eq_getElem?_getD, List.getElem?_map, List.getElem?_range hj]; rfl
theorem ebt_eq (he : vS n es) (hc : yH n es = 0) {x : jC} (hx : EOkE n x) : eO (ebt (uL n es) x) ∧ yG (ebt (uL n es) x) (kB (uD (aV n es x.to_.toNat)) (aV n es x.fr.toNat)) := by
  have hts := abs_ok he hc
  obtain ⟨h1, h2⟩ := eok_lt hx
  have hT := hts.at h2
  have hF := hts.at h1
  refine ⟨xB (gU (xK hT.1) (gL hT)).1 hF.1, ?_⟩
  unfold ebt
  refine ((qV_eq (xK hT.1) (gL hT)).mul (yG.refl _)).trans ?_
  rw [absL_at he hc h1, absL_at he hc h2]
  exact (cP (fJ he _)).cj.mul (cP (fJ he _))
theorem same_ag (he : vS n es) (hc : yH n es = 0) {x : jC} (hx : EOkE n x) (hcx : qC (ebt (uL n es) x) = 0) : eY (qV (ebt (uL n es) x)) x.turn = true ↔ agE (aV n es) x := by
  obtain ⟨g1, g2⟩ := ebt_eq he hc hx
  rw [sameQ_iff (gU g1 hcx) hx.q]
  unfold agE
  rw [qdiv (fJ he _) hx.q.1]
  have e := (qV_eq g1 hcx).trans g2
  exact ⟨fun h => e.symm.trans h, fun h => e.trans h⟩
theorem erC_ok {ts : List jB} (h : erC es ts = 0) : erOk es ts := by
  unfold erC at h; split at h
  · assumption
  · cases h
theorem cn_ok (h : cnC n es = 0) : yH n es = 0 ∧ erC es (uL n es) = 0 := by
  by_cases h1 : yH n es = 0
  · exact ⟨h1, (fM (d := erC es (uL n es)) h1).symm.trans h⟩
  · exact absurd ((cn_1 h1).1.symm.trans h) h1
theorem cn_03 (h : cnC n es ≠ 0) : cnC n es = 3 := by
  by_cases h1 : yH n es = 0
  · have e : cnC n es = erC es (uL n es) := fM h1
    rw [e] at h ⊢; exact erC_03 h
  · rw [(cn_1 h1).1]; exact (abs_n h1).2
theorem mem_ix {x : jC} (hx : x ∈ es) : ∃ i, i < es.length ∧ es.getD i e0 = x := by
  obtain ⟨i, hi, rfl⟩ := List.getElem_of_mem hx
  exact ⟨i, hi, by rw [List.getD_eq_getElem?_getD, List.getElem?_eq_getElem hi]; rfl⟩
theorem aV_sol (he : vS n es) {W : Nat → jB} (hW : Sol n es W) : Sol n es (aV n es) := by
  refine ⟨fun j _ => fJ he j, fun x hx => ?_⟩
  obtain ⟨i, hi, rfl⟩ := mem_ix hx
  have hx' := mY he hi
  obtain ⟨h1, h2⟩ := eok_lt hx'
  have htree : ∀ i : Nat, (i : Int) ∈ zJ true n es es.length → yG (W (es.getD i e0).fr.toNat) (kB (W (es.getD i e0).to_.toNat) (es.getD i e0).turn) := fun i hi => by
    obtain ⟨i', hil, e⟩ := nT hi
    exact hW.2 _ (mem_getD (by omega))
  have u1 := tV_uniq he W hW.1 (Nat.le_refl _) htree h1
  have u2 := tV_uniq he W hW.1 (Nat.le_refl _) htree h2
  have hend := tPar_ends he (Nat.le_refl es.length) hi
  rw [hend] at u1
  refine u1.trans (yG.trans ?_ ((u2.mul (yG.refl _)).symm))
  rw [vC]
  exact (yG.refl _).mul (hW.2 _ hx)
theorem cn_sol (he : vS n es) (hc : cnC n es = 0) : cnV n es = true ↔ ∃ W, Sol n es W := by
  obtain ⟨h1, h2⟩ := cn_ok hc
  have hok := erC_ok h2
  rw [(cn_3 h1 h2).2]
  unfold alS
  rw [List.all_eq_true]
  constructor
  · intro h
    exact ⟨aV n es, fun j _ => fJ he j, fun x hx => (same_ag he h1 (he x hx) (hok x hx)).1 (h x hx)⟩
  · rintro ⟨W, hW⟩ x hx
    exact (same_ag he h1 (he x hx) (hok x hx)).2 ((aV_sol he hW).2 x hx)
end
theorem lop_of {z : Int} {es : List jC} (h1 : 1 ≤ z) (h2 : z ≤ 64) (h3 : es.length ≤ 256) (h4 : vS z.toNat es) : qO z es = 0 := by
  rw [lopC_eds (by omega) (by omega) (by omega)]
  have := edsC_ok.2 h4
  rwa [Int.toNat_of_nonneg (by omega)] at this
theorem con_03 {z : Int} {es : List jC} (h : qO z es = 0) (h1 : eT z es ≠ 0) : eT z es = 3 := by
  rw [(con_0 h).1] at h1 ⊢; exact cn_03 h1
theorem or_ne {a b : Nat} (h : ((((a : Nat) : Int) == 3) || (((b : Nat) : Int) == 3)) = false) : a ≠ 3 ∧ b ≠ 3 := by
  rw [Bool.or_eq_false_iff, beq_eq_false_iff_ne, beq_eq_false_iff_ne] at h
  omega
end Go.Fid
set_option linter.unusedVariables false
set_option linter.unusedSimpArgs false
namespace Go.Fid
def qBad (q : jB) : Bool := ((((((((decide (3 < q.a) || decide (q.a < -3)) || decide (3 < q.b)) || decide (q.b < -3)) || decide (3 < q.c)) || decide (q.c < -3)) || decide (3 < q.d)) || decide (q.d < -3)) || (((rqC q : Nat) : Int) != 0))
def sm3 (z : Int) : Prop := -3 ≤ z ∧ z ≤ 3
def Qsm (q : jB) : Prop := (sm3 q.a ∧ sm3 q.b ∧ sm3 q.c ∧ sm3 q.d) ∧ cQ q
theorem qBad_f {q : jB} (h : qBad q = false) : Qsm q := by
  unfold qBad at h
  simp only [Bool.or_eq_false_iff, decide_eq_false_iff_not, bne_eq_false_iff_eq] at h
  obtain ⟨⟨⟨⟨⟨⟨⟨⟨h1, h2⟩, h3⟩, h4⟩, h5⟩, h6⟩, h7⟩, h8⟩, h9⟩ := h
  refine ⟨⟨⟨by omega, by omega⟩, ⟨by omega, by omega⟩, ⟨by omega, by omega⟩, ⟨by omega, by omega⟩⟩, ?_⟩
  exact nL.2 (show rqC q = 0 by omega)
theorem mul9 {a b : Int} (ha : sm3 a) (hb : sm3 b) : -9 ≤ a * b ∧ a * b ≤ 9 := by
  obtain ⟨a1, a2⟩ := ha
  obtain ⟨b1, b2⟩ := hb
  rcases (by omega : a = -3 ∨ a = -2 ∨ a = -1 ∨ a = 0 ∨ a = 1 ∨ a = 2 ∨ a = 3) with rfl | rfl | rfl | rfl | rfl | rfl | rfl <;> omega
theorem sm3_fdiv {x d : Int} (hd : d ≠ 0) (h : d ∣ x) (hx : sm3 x) : sm3 (x.fdiv d) := by
  have := fdiv_abs hd h
  unfold sm3 at *; omega
theorem cA {p q : jB} (hp : Qsm p) (hq : Qsm q) : qC (kB (qV (uD p)) q) = 0 := by
  have hc := gL hp.2
  have hn := xK hp.2.1
  rw [qV_c0 hc]
  have hs : sm3 (zV (uD p)).a ∧ sm3 (zV (uD p)).b ∧ sm3 (zV (uD p)).c ∧ sm3 (zV (uD p)).d := by
    have hd := dvL_ne hn
    have hdv : ∀ z ∈ qL (uD p), dvL (qL (uD p)) ∣ z := dvL_dvd
    obtain ⟨⟨a1, a2, a3, a4⟩, _⟩ := hp
    refine ⟨sm3_fdiv hd (hdv _ (by simp [qL])) a1, sm3_fdiv hd (hdv _ (by simp [qL])) ?_, sm3_fdiv hd (hdv _ (by simp [qL])) ?_, sm3_fdiv hd (hdv _ (by simp [qL])) ?_⟩ <;>
      (unfold sm3 at *; simp only [uD]; omega)
  obtain ⟨b1, b2, b3, b4⟩ := hs
  obtain ⟨⟨c1, c2, c3, c4⟩, hqo⟩ := hq
  have m1 := mul9 b1 c1; have m2 := mul9 b2 c2; have m3 := mul9 b3 c3; have m4 := mul9 b4 c4
  have m5 := mul9 b1 c2; have m6 := mul9 b2 c1; have m7 := mul9 b3 c4; have m8 := mul9 b4 c3
  have m9 := mul9 b1 c3; have m10 := mul9 b2 c4; have m11 := mul9 b3 c1; have m12 := mul9 b4 c2
  have m13 := mul9 b1 c4; have m14 := mul9 b2 c3; have m15 := mul9 b3 c2; have m16 := mul9 b4 c1
  refine qC_ok ⟨xB (qcan_nz hn) hqo.1, ?_⟩
  unfold cE inQ kB
  simp only
  refine ⟨⟨?_, ?_⟩, ⟨?_, ?_⟩, ⟨?_, ?_⟩, ⟨?_, ?_⟩⟩ <;> omega
def mdE (ts : List jB) (x : Nat × Nat) : jC := ⟨((x.1 % ts.length : Nat) : Int), ((x.2 % ts.length : Nat) : Int), qV (kB (qV (uD (qZ ts (x.2 % ts.length)))) (qZ ts (x.1 % ts.length)))⟩
def mdL (ts : List jB) (l : List (Nat × Nat)) : List jC := (l.filter fun x => decide (x.1 % ts.length ≠ x.2 % ts.length)).map (mdE ts)
theorem md_y {ts : List jB} {l : List (Nat × Nat)} {x : Nat × Nat} (h : x.1 % ts.length ≠ x.2 % ts.length) : mdL ts (l ++ [x]) = mdL ts l ++ [mdE ts x] := by
  unfold mdL; rw [List.filter_append, List.map_append]; simp only [List.filter_cons, List.filter_nil, decide_eq_true h, if_true]; rfl
theorem md_n {ts : List jB} {l : List (Nat × Nat)} {x : Nat × Nat} (h : x.1 % ts.length = x.2 % ts.length) : mdL ts (l ++ [x]) = mdL ts l := by
  have hd : decide (x.1 % ts.length ≠ x.2 % ts.length) = false := by simp [h]
  unfold mdL; rw [List.filter_append, List.map_append]; simp only [List.filter_cons, List.filter_nil, hd, Bool.false_eq_true, if_false, List.map_nil, List.append_nil]
theorem md_len {ts : List jB} {l : List (Nat × Nat)} : (mdL ts l).length ≤ l.length := by
  unfold mdL; rw [List.length_map]; exact List.length_filter_le _ _
def allSm (ts : List jB) : Prop := ∀ q ∈ ts, Qsm q
theorem cK {ts : List jB} (h : allSm ts) {j : Nat} (hj : j < ts.length) : Qsm (qZ ts j) := by
  unfold qZ; rw [List.getD_eq_getElem?_getD, List.getElem?_eq_getElem hj]; exact h _ (List.getElem_mem _)
theorem mdE_ok {ts : List jB} (h : allSm ts) (h1 : 1 ≤ ts.length) {x : Nat × Nat} (hx : x.1 % ts.length ≠ x.2 % ts.length) : EOkE ts.length (mdE ts x) := by
  have m1 := Nat.mod_lt x.1 (show 0 < ts.length by omega)
  have m2 := Nat.mod_lt x.2 (show 0 < ts.length by omega)
  have s1 := cK h m1
  have s2 := cK h m2
  have hnz := xB (gU (xK s2.2.1) (gL s2.2)).1 s1.2.1
  refine ⟨?_, ?_, ?_, ?_, ?_, gU hnz (cA s2 s1)⟩ <;> simp only [mdE] <;> omega
theorem md_ok {ts : List jB} {l : List (Nat × Nat)} (h : allSm ts) (h1 : 1 ≤ ts.length) : vS ts.length (mdL ts l) := fun y hy => by
  unfold mdL at hy
  obtain ⟨x, hx, rfl⟩ := List.mem_map.1 hy
  exact mdE_ok h h1 (by simpa using (List.mem_filter.1 hx).2)
theorem mdE_ag {ts : List jB} (h : allSm ts) (h1 : 1 ≤ ts.length) (x : Nat × Nat) : agE (qZ ts) (mdE ts x) := by
  have m1 := Nat.mod_lt x.1 (show 0 < ts.length by omega)
  have m2 := Nat.mod_lt x.2 (show 0 < ts.length by omega)
  have s1 := cK h m1
  have s2 := cK h m2
  have hcz := gU (xK s2.2.1) (gL s2.2)
  have hnz := xB hcz.1 s1.2.1
  unfold agE mdE
  show yG (qZ ts ((x.1 % ts.length : Nat) : Int).toNat) (kB (qZ ts ((x.2 % ts.length : Nat) : Int).toNat) (qV _))
  rw [Int.toNat_natCast, Int.toNat_natCast, qdiv s2.2.1 (gU hnz (cA s2 s1)).1]
  refine yG.trans ?_ (qV_eq hnz (cA s2 s1)).symm
  exact (qV_eq (xK s2.2.1) (gL s2.2)).symm.mul (yG.refl _)
theorem md_sol {ts : List jB} {l : List (Nat × Nat)} (h : allSm ts) (h1 : 1 ≤ ts.length) : Sol ts.length (mdL ts l) (qZ ts) := by
  refine ⟨fun j hj => (cK h hj).2.1, fun y hy => ?_⟩
  unfold mdL at hy
  obtain ⟨x, hx, rfl⟩ := List.mem_map.1 hy
  exact mdE_ag h h1 x
end Go.Fid
set_option linter.unusedVariables false
set_option linter.unusedSimpArgs false
namespace Go.Fid
open Go.RowKit (Below)
def aggOf (s : Nat) (u : Nat → Value) : Value := .agg ((List.range s).map u).toArray
structure BacksS (P : Program) (fB fI : FuncId) (T : TypeId) (s : Nat) : Prop where
  call : ∀ (a : Option Addr) (len cap : Nat) (w : World), Calls P fB #[.slice a len cap] w fun e w' => e = .returned (.func (.func fI) #[] #[.pointer (some ⟨w.heap.size, 0, none⟩)]) ∧ w' = w.alloc (.cells #[.slice a len cap] T)
  empty : ∀ (N l b cap : Nat) (ao : Option Addr) (J : World → Prop) (W : World), W.cell? ⟨b, 0, none⟩ = some (.slice ao 0 cap) → J W →
    CallsIn Fence.wide (N + 1) P fI #[.func (.yield l) #[] #[], .pointer (some ⟨b, 0, none⟩)] W fun e W' => (∃ v, e = .returned v) ∧ J W'
  rounds : ∀ (N l c b off len cap : Nat) (u : Nat → Nat → Value), (len : Int) ≤ 9223372036854775807 → ∀ (J : Nat → World → Prop) (Jx : World → Prop),
    (∀ j W, J j W → W.cell? ⟨c, 0, none⟩ = some (.slice (some ⟨b, off, none⟩) len cap) ∧ ∀ i, i < len → ∀ r, r < s → W.cell? ⟨b, off + (i * s + r), none⟩ = some (u i r)) →
    (∀ j W, J j W → j < len → YieldAt Fence.wide N P l #[.int .i64 ((len : Int) - 1 - (j : Int)), aggOf s (u (len - 1 - j))] W fun e W' => (e = .returned (.bool true) ∧ J (j + 1) W') ∨ (e = .returned (.bool false) ∧ Jx W')) →
    ∀ W, J 0 W → CallsIn Fence.wide (N + 1) P fI #[.func (.yield l) #[] #[], .pointer (some ⟨c, 0, none⟩)] W fun e W' => (∃ v, e = .returned v) ∧ (J len W' ∨ Jx W')
  enters : ∀ args w, (callFunc fI args).run P w = .ok (.enter fI args) w
section
variable {C : dU} {a a' : Act} {w w' : World} {st : PS} {D : qB} {β : qH}
variable {P : Program} {n : Fr} {fB fI : FuncId} {T : TypeId} {S : SL} {B : BS} {Q : Exit → PS → Prop} {α : Type}
end
end Go.Fid
set_option linter.unusedVariables false
set_option linter.unusedSimpArgs false
namespace Go.Fid
section
variable {P : Program} {o : Oper} {S : Nat → SV} {x : Operand} {k T s n : Nat} {d : kE}
theorem oE0 (ho : o.op = .extract x 0 := by exact rfl) (hx : ev S x = .pr k T s n d := by exact rfl) : qR P o S [] (.own k T s n) :=
  qR.same fun a w D β hop _ => by
    have hp := hop x (by simp [ho, Op.operands])
    rw [hx] at hp
    obtain ⟨v1, v2, e, h1, h2⟩ := hp
    exact ⟨v1, by simp [execOp, ho, e, Instr.extract], h1⟩
theorem oE1 (ho : o.op = .extract x 1 := by exact rfl) (hx : ev S x = .pr k T s n d := by exact rfl) : qR P o S [] (.d d) :=
  qR.same fun a w D β hop _ => by
    have hp := hop x (by simp [ho, Op.operands])
    rw [hx] at hp
    obtain ⟨v1, v2, e, h1, h2⟩ := hp
    exact ⟨v2, by simp [execOp, ho, e, Instr.extract], h2⟩
end
end Go.Fid
namespace Go.Proofs.YtihgdjljnaekmaaGreat
open Go.Fid
set_option maxRecDepth 4000
set_option linter.unusedVariables false
set_option linter.unusedSimpArgs false
theorem ar87 : arrB Tryz.prog 87 = some (2, 5, 1) := by kernel_rfl
theorem by56 : yD Tryz.prog 56 = some 48 := by kernel_rfl
theorem cb38 : callB Tryz.prog 38 = true := by kernel_rfl
theorem el86 : uR Tryz.prog 86 = some (87, 2) := by kernel_rfl
theorem sh5 : kV Tryz.prog 5 = some (false, 1) := by kernel_rfl
theorem sh87 : kV Tryz.prog 87 = some (true, 2) := by kernel_rfl
theorem un5 : (Tryz.prog.underlying 5).isSome = true := by kernel_rfl
theorem ze87 : vF Tryz.prog 87 = some [.int .u8 0, .int .u8 0] := by kernel_rfl
theorem zo87 : mV [.int .u8 0, .int .u8 0] [.val (.int .u8 0), .val (.int .u8 0)] := by simp [mV, Value.oneCell']
def p2 (x : A2 (Nat)) : Nat × Nat := (x.a0, x.a1)
def mdB (ts : List jB) : Bool := !(ts.any qBad)
def mdR (ts : List jB) (p : List (A2 (Nat))) : List jC := if ts.any qBad = true then [] else mdL ts (List.map p2 p)
theorem mem_gd {α : Type} {l : List α} {k : Nat} (d : α) (h : k < l.length) : l.getD k d ∈ l := by
 rw [List.getD_eq_getElem?_getD, List.getElem?_eq_getElem h]; exact List.getElem_mem _
theorem p2_s {p : List (A2 (Nat))} {k : Nat} (d : A2 (Nat)) (h : k < p.length) : List.map p2 (p.take (k + 1)) = List.map p2 (p.take k) ++ [p2 (p.getD k d)] := by
 rw [List.take_succ_eq_append_getElem h, List.map_append, List.getD_eq_getElem?_getD, List.getElem?_eq_getElem h]; rfl
theorem any_s {ts : List jB} {k : Nat} (h : k < ts.length) (h1 : (ts.take k).any qBad = false) (h2 : qBad (qZ ts k) = false) : (ts.take (k + 1)).any qBad = false := by
 have e : qZ ts k = ts[k] := by unfold qZ; rw [List.getD_eq_getElem?_getD, List.getElem?_eq_getElem h]; rfl
 rw [List.take_succ_eq_append_getElem h, List.any_append, h1, ← e]; simp [h2]
theorem any_y {ts : List jB} {k : Nat} (h : k < ts.length) (h2 : qBad (qZ ts k) = true) : ts.any qBad = true := by
 have e : qZ ts k = ts[k] := by unfold qZ; rw [List.getD_eq_getElem?_getD, List.getElem?_eq_getElem h]; rfl
 exact List.any_eq_true.2 ⟨ts[k], List.getElem_mem _, e ▸ h2⟩
theorem sm_all {ts : List jB} (h : ts.any qBad = false) : allSm ts := fun q hq => qBad_f (by have := List.any_eq_false.1 h q hq; simpa using this)
theorem e_made (ts : List jB) (p : List (A2 (Nat))) (h1 : 1 ≤ ts.length) (hbt : ts.length ≤ 1000) (hbp : p.length ≤ 1000) (hu : ∀ x ∈ p, x.a0 ≤ 255 ∧ x.a1 ≤ 255) : aG Tryz.prog 38 [(vl 28 4 jE ts), (vl 87 2 cC p)] [] (.pr 0 56 6 ((mdR ts p).length) (.val (.bool ((mdB ts))))) [(0, some (xY jK (mdR ts p)))] := by
 refine fn_introS Tryz.func38 rfl cb38 rfl ?_
 show qS _ _ _ _ ⟨[(0, (vl 28 4 jE ts)), (1, (vl 87 2 cC p))], []⟩
 refine jA <| kx [] [(1, none)] (zO 1 56 6 <| zM <| zZ) ?_
 refine jA <| kx [(6, (.own 2 56 6 0))] [(2, some (xY jK []))] (zO 2 56 6 <| zZ) ?_
 refine jA <| jA <| kx [(15, (vl 28 4 jE ts)), (16, (jQ ts.length)), (17, (jQ 0))] [] (zM <| zE (xA gH) <| zM <| zZ) ?_
 refine jH <| kH (α := Nat) (fun k => ⟨[(0, (vl 28 4 jE ts)), (1, (vl 87 2 cC p)), (6, (.own 2 56 6 0)), (15, (vl 28 4 jE ts)), (16, (jQ ts.length)), (17, (jQ k))], [(2, some (xY jK []))]⟩) (fun k => k ≤ ts.length ∧ (ts.take k).any qBad = false) (fun k => ts.length - k) 0 wk ⟨Nat.zero_le _, rfl⟩ ?_
 rintro k ⟨hk, hv⟩
 refine jA <| kx [(18, (vb (decide (((k : Nat) : Int) < ((ts.length : Nat) : Int)))))] [] (zE uP <| zZ) ?_
 refine jA <| jG rfl (fun h1 => ?_) (fun h1 => ?_)
 ·replace h1 := of_decide_eq_true h1
  refine jF <| jA <| jH <| jA <| kx [(8, (.ref 3 0))] [(3, some (bx (jE (ts.getD k (jB.mk 0 0 0 0)))))] (zE (yO gH k (jB.mk 0 0 0 0)) <| zE (eN kK) <| zH (uQ 3 uY uZ) <| zT (kZ kK) <| zZ) ?_
  refine jA <| kx [(63, (vb ((((((((decide (3 < (ts.getD k (jB.mk 0 0 0 0)).a) || decide ((ts.getD k (jB.mk 0 0 0 0)).a < -3)) || decide (3 < (ts.getD k (jB.mk 0 0 0 0)).b)) || decide ((ts.getD k (jB.mk 0 0 0 0)).b < -3)) || decide (3 < (ts.getD k (jB.mk 0 0 0 0)).c)) || decide ((ts.getD k (jB.mk 0 0 0 0)).c < -3)) || decide (3 < (ts.getD k (jB.mk 0 0 0 0)).d)) || decide ((ts.getD k (jB.mk 0 0 0 0)).d < -3)) || ((((yT ((ts.getD k (jB.mk 0 0 0 0)).a) ((ts.getD k (jB.mk 0 0 0 0)).b) ((ts.getD k (jB.mk 0 0 0 0)).c) ((ts.getD k (jB.mk 0 0 0 0)).d)) : Nat) : Int) != 0))))] [] ?_ ?_
  ·refine zE (kQ vJ) <| zR (kM qA) <| zE mZ <| zE (oV (vb (decide (3 < (ts.getD k (jB.mk 0 0 0 0)).a))) (kP (by kernel_rfl))) <| ?_
   rcases hb2 : (decide (3 < (ts.getD k (jB.mk 0 0 0 0)).a)) with _ | _
   ·replace hb2 := of_decide_eq_false hb2
    refine zE (kQ vJ) <| zR (kM qA) <| zE uP <| zE nI <| zE (oV (vb (false || decide ((ts.getD k (jB.mk 0 0 0 0)).a < -3))) (kP (by kernel_rfl))) <| ?_
    rcases hb3 : (false || decide ((ts.getD k (jB.mk 0 0 0 0)).a < -3)) with _ | _
    ·replace hb3 := of_decide_eq_false (p := ((ts.getD k (jB.mk 0 0 0 0)).a < -3)) hb3
     refine zE (kQ vN) <| zR (kM qA) <| zE mZ <| zE nI <| zE (oV (vb (false || decide (3 < (ts.getD k (jB.mk 0 0 0 0)).b))) (kP (by kernel_rfl))) <| ?_
     rcases hb4 : (false || decide (3 < (ts.getD k (jB.mk 0 0 0 0)).b)) with _ | _
     ·replace hb4 := of_decide_eq_false (p := (3 < (ts.getD k (jB.mk 0 0 0 0)).b)) hb4
      refine zE (kQ vN) <| zR (kM qA) <| zE uP <| zE nI <| zE (oV (vb (false || decide ((ts.getD k (jB.mk 0 0 0 0)).b < -3))) (kP (by kernel_rfl))) <| ?_
      rcases hb5 : (false || decide ((ts.getD k (jB.mk 0 0 0 0)).b < -3)) with _ | _
      ·replace hb5 := of_decide_eq_false (p := ((ts.getD k (jB.mk 0 0 0 0)).b < -3)) hb5
       refine zE (kQ vM) <| zR (kM qA) <| zE mZ <| zE nI <| zE (oV (vb (false || decide (3 < (ts.getD k (jB.mk 0 0 0 0)).c))) (kP (by kernel_rfl))) <| ?_
       rcases hb6 : (false || decide (3 < (ts.getD k (jB.mk 0 0 0 0)).c)) with _ | _
       ·replace hb6 := of_decide_eq_false (p := (3 < (ts.getD k (jB.mk 0 0 0 0)).c)) hb6
        refine zE (kQ vM) <| zR (kM qA) <| zE uP <| zE nI <| zE (oV (vb (false || decide ((ts.getD k (jB.mk 0 0 0 0)).c < -3))) (kP (by kernel_rfl))) <| ?_
        rcases hb7 : (false || decide ((ts.getD k (jB.mk 0 0 0 0)).c < -3)) with _ | _
        ·replace hb7 := of_decide_eq_false (p := ((ts.getD k (jB.mk 0 0 0 0)).c < -3)) hb7
         refine zE (kQ vK) <| zR (kM qA) <| zE mZ <| zE nI <| zE (oV (vb (false || decide (3 < (ts.getD k (jB.mk 0 0 0 0)).d))) (kP (by kernel_rfl))) <| ?_
         rcases hb8 : (false || decide (3 < (ts.getD k (jB.mk 0 0 0 0)).d)) with _ | _
         ·replace hb8 := of_decide_eq_false (p := (3 < (ts.getD k (jB.mk 0 0 0 0)).d)) hb8
          refine zE (kQ vK) <| zR (kM qA) <| zE uP <| zE nI <| zE (oV (vb (false || decide ((ts.getD k (jB.mk 0 0 0 0)).d < -3))) (kP (by kernel_rfl))) <| ?_
          rcases hb9 : (false || decide ((ts.getD k (jB.mk 0 0 0 0)).d < -3)) with _ | _
          ·replace hb9 := of_decide_eq_false (p := ((ts.getD k (jB.mk 0 0 0 0)).d < -3)) hb9
           exact zR (kT kK) <| zE (kD (qs_chk ((ts.getD k (jB.mk 0 0 0 0)).a) ((ts.getD k (jB.mk 0 0 0 0)).b) ((ts.getD k (jB.mk 0 0 0 0)).c) ((ts.getD k (jB.mk 0 0 0 0)).d))) <| zE cG <| zE nI <| zZ
          ·replace hb9 := of_decide_eq_true (p := ((ts.getD k (jB.mk 0 0 0 0)).d < -3)) hb9
           exact zK <| zK <| zK <| zE vR <| zZ
         ·replace hb8 := of_decide_eq_true (p := (3 < (ts.getD k (jB.mk 0 0 0 0)).d)) hb8
          exact zK <| zK <| zK <| zE vR <| zM <| zK <| zK <| zK <| zE vR <| zZ
        ·replace hb7 := of_decide_eq_true (p := ((ts.getD k (jB.mk 0 0 0 0)).c < -3)) hb7
         exact zK <| zK <| zK <| zE vR <| zM <| zK <| zK <| zK <| zE vR <| zM <| zK <| zK <| zK <| zE vR <| zZ
       ·replace hb6 := of_decide_eq_true (p := (3 < (ts.getD k (jB.mk 0 0 0 0)).c)) hb6
        exact zK <| zK <| zK <| zE vR <| zM <| zK <| zK <| zK <| zE vR <| zM <| zK <| zK <| zK <| zE vR <| zM <| zK <| zK <| zK <| zE vR <| zZ
      ·replace hb5 := of_decide_eq_true (p := ((ts.getD k (jB.mk 0 0 0 0)).b < -3)) hb5
       exact zK <| zK <| zK <| zE vR <| zM <| zK <| zK <| zK <| zE vR <| zM <| zK <| zK <| zK <| zE vR <| zM <| zK <| zK <| zK <| zE vR <| zM <| zK <| zK <| zK <| zE vR <| zZ
     ·replace hb4 := of_decide_eq_true (p := (3 < (ts.getD k (jB.mk 0 0 0 0)).b)) hb4
      exact zK <| zK <| zK <| zE vR <| zM <| zK <| zK <| zK <| zE vR <| zM <| zK <| zK <| zK <| zE vR <| zM <| zK <| zK <| zK <| zE vR <| zM <| zK <| zK <| zK <| zE vR <| zM <| zK <| zK <| zK <| zE vR <| zZ
    ·replace hb3 := of_decide_eq_true (p := ((ts.getD k (jB.mk 0 0 0 0)).a < -3)) hb3
     exact zK <| zK <| zK <| zE vR <| zM <| zK <| zK <| zK <| zE vR <| zM <| zK <| zK <| zK <| zE vR <| zM <| zK <| zK <| zK <| zE vR <| zM <| zK <| zK <| zK <| zE vR <| zM <| zK <| zK <| zK <| zE vR <| zM <| zK <| zK <| zK <| zE vR <| zZ
   ·replace hb2 := of_decide_eq_true hb2
    exact zK <| zK <| zK <| zE vR <| zM <| zK <| zK <| zK <| zE vR <| zM <| zK <| zK <| zK <| zE vR <| zM <| zK <| zK <| zK <| zE vR <| zM <| zK <| zK <| zK <| zE vR <| zM <| zK <| zK <| zK <| zE vR <| zM <| zK <| zK <| zK <| zE vR <| zM <| zK <| zK <| zK <| zE vR <| zZ
  refine jG rfl (fun h10 => ?_) (fun h10 => ?_)
  ·refine jA <| kx [(4, (.own 4 56 6 0)), (5, (vb false))] [(4, some (xY jK []))] (zO 4 56 6 <| zM <| zZ) ?_
   refine kY (wk (l := [(4, (.own 4 56 6 0)), (5, (vb false))]) (b := [(4, some (xY jK []))])) ?_
   refine kY (sim_ren (S' := [(4, (.own 0 56 6 0)), (5, (vb false))]) (B' := [(0, some (xY jK []))]) 0 4) ?_
   have hy : ts.any qBad = true := any_y (by omega) h10
   rw [show mdR ts p = [] from if_pos hy, show mdB ts = false by unfold mdB; rw [hy]; rfl]
   refine jI ⟨dE (by kernel_rfl), aF (by kernel_rfl), .inr (.inr ⟨4, 5, 0, 56, 6, 0, (.val (.bool (false))), rfl, rfl, rfl, ?_⟩)⟩
   rfl
  ·refine jF <| kx [(17, (jQ (k + 1)))] [] (zE (qQ (k + 1)) <| zM <| zZ) ?_
   exact ⟨(k + 1), wk, ⟨by omega, any_s (by omega) hv h10⟩, (by omega)⟩
 ·replace h1 := of_decide_eq_false h1
  have hany : ts.any qBad = false := by rw [show k = ts.length by omega, List.take_length] at hv; exact hv
  have hsm := sm_all hany
  refine jW <| jA <| jA <| kx [(65, (vl 87 2 cC p)), (66, (jQ p.length)), (67, (jQ 0))] [] (zM <| zE (xA el86) <| zM <| zZ) ?_
  refine jH <| kH (α := Nat × List jC) (fun (k, out) => ⟨[(0, (vl 28 4 jE ts)), (6, (.own 2 56 6 out.length)), (65, (vl 87 2 cC p)), (66, (jQ p.length)), (67, (jQ k))], [(2, some (xY jK out))]⟩) (fun (k, out) => k ≤ p.length ∧ out = mdL ts (List.map p2 (p.take k))) (fun (k, out) => p.length - k) (0, []) wk ⟨Nat.zero_le _, rfl⟩ ?_
  rintro ⟨k, out⟩ ⟨hk, ho⟩
  have hol : out.length ≤ k := by rw [ho]; have := md_len (ts := ts) (l := List.map p2 (p.take k)); have := List.length_take_le k p; rw [List.length_map] at *; omega
  have hma := Nat.mod_lt (p.getD k (A2.mk 0 0)).a0 (show 0 < ts.length by omega)
  have hmb := Nat.mod_lt (p.getD k (A2.mk 0 0)).a1 (show 0 < ts.length by omega)
  have hsa := cK hsm hma
  have hsb := cK hsm hmb
  refine jA <| kx [(68, (vb (decide (((k : Nat) : Int) < ((p.length : Nat) : Int)))))] [] (zE uP <| zZ) ?_
  refine jA <| jG rfl (fun h11 => ?_) (fun h11 => ?_)
  ·replace h11 := of_decide_eq_true h11
   have hux := hu _ (mem_gd (l := p) (k := k) (A2.mk 0 0) (by omega))
   refine jF <| jA <| jH <| jA <| kx [(10, (.ref 5 0))] [(5, some (bx (cC (p.getD k (A2.mk 0 0)))))] (zE (yO el86 k ((A2.mk 0 0) : A2 (Nat))) <| zE (eN sh87) <| zH (uQ 5 ze87 zo87) <| zT (kZ sh87) <| zZ) ?_
   refine jA <| kd [(11, (jQ ((p.getD k (A2.mk 0 0)).a0 % ts.length))), (12, (jQ ((p.getD k (A2.mk 0 0)).a1 % ts.length)))] [] mo (wE (oXr ar87 0) <| wR (kM sh5) <| wE (yV un5 in3 ((p.getD k (A2.mk 0 0)).a0)) <| wM <| wE (xA gH) <| wE (oRe ((p.getD k (A2.mk 0 0)).a0 % ts.length)) <| wE (oXr ar87 1) <| wR (kM sh5) <| wE (yV un5 in3 ((p.getD k (A2.mk 0 0)).a1)) <| wM <| wE (xA gH) <| wE (oRe ((p.getD k (A2.mk 0 0)).a1 % ts.length)) <| wM <| wM <| wZ) ?_
   refine jA <| jA <| kx [(85, (vb (((((p.getD k (A2.mk 0 0)).a0 % ts.length) : Nat) : Int) == ((((p.getD k (A2.mk 0 0)).a1 % ts.length) : Nat) : Int))))] [] (zM <| zM <| zE gF <| zZ) ?_
   refine jG rfl (fun h12 => ?_) (fun h12 => ?_)
   ·replace h12 := eq_of_beq h12
    refine jW <| kx [(67, (jQ (k + 1)))] [] (zE (qQ (k + 1)) <| zM <| zZ) ?_
    exact ⟨(k + 1, out), wk, ⟨by omega, by rw [p2_s (A2.mk 0 0) (by omega), md_n (show (p2 (p.getD k (A2.mk 0 0))).1 % ts.length = (p2 (p.getD k (A2.mk 0 0))).2 % ts.length by show ((p.getD k (A2.mk 0 0)).a0 % ts.length) = ((p.getD k (A2.mk 0 0)).a1 % ts.length); omega)]; exact ho⟩, (by first | omega | (dsimp only; omega))⟩
   ·replace h12 := ne_of_beq_false h12
    refine jF <| jA <| kd [(13, (.ref 6 0)), (14, (jQ (qC (kB (qV (uD (ts.getD ((p.getD k (A2.mk 0 0)).a1 % ts.length) (jB.mk 0 0 0 0)))) (ts.getD ((p.getD k (A2.mk 0 0)).a0 % ts.length) (jB.mk 0 0 0 0))))))] [(6, some (bx (jE (qV (kB (qV (uD (ts.getD ((p.getD k (A2.mk 0 0)).a1 % ts.length) (jB.mk 0 0 0 0)))) (ts.getD ((p.getD k (A2.mk 0 0)).a0 % ts.length) (jB.mk 0 0 0 0)))))))] mo (wM <| wM <| wE (yO gH ((p.getD k (A2.mk 0 0)).a1 % ts.length) (jB.mk 0 0 0 0)) <| wE (eN kK) <| wM <| wM <| wE (yO gH ((p.getD k (A2.mk 0 0)).a0 % ts.length) (jB.mk 0 0 0 0)) <| wE (eN kK) <| wE (kD (l8_under (ts.getD ((p.getD k (A2.mk 0 0)).a1 % ts.length) (jB.mk 0 0 0 0)) (ts.getD ((p.getD k (A2.mk 0 0)).a0 % ts.length) (jB.mk 0 0 0 0)) hsb.2 hsa.2)) <| wM <| wE qG <| wE qG <| wH (hc := by kernel_rfl) (uQ 6 uY uZ) <| wT (kZ kK) <| wM <| wZ) ?_
    refine jA <| jA <| kx [(99, (vb false))] [] (zM <| zE (xH false cG (by exact bne_eq_false_iff_eq.2 (by rw [show (qC (kB (qV (uD (ts.getD ((p.getD k (A2.mk 0 0)).a1 % ts.length) (jB.mk 0 0 0 0)))) (ts.getD ((p.getD k (A2.mk 0 0)).a0 % ts.length) (jB.mk 0 0 0 0)))) = 0 from (cA hsb hsa)]; rfl))) <| zZ) ?_
    refine qN ?_
    refine jF <| kf [(6, (.own 2 56 6 ((out ++ [(jC.mk ((((p.getD k (A2.mk 0 0)).a0 % ts.length) : Nat) : Int) ((((p.getD k (A2.mk 0 0)).a1 % ts.length) : Nat) : Int) (qV (kB (qV (uD (ts.getD ((p.getD k (A2.mk 0 0)).a1 % ts.length) (jB.mk 0 0 0 0)))) (ts.getD ((p.getD k (A2.mk 0 0)).a0 % ts.length) (jB.mk 0 0 0 0)))))]).length)))] [(2, some (xY jK (out ++ [(jC.mk ((((p.getD k (A2.mk 0 0)).a0 % ts.length) : Nat) : Int) ((((p.getD k (A2.mk 0 0)).a1 % ts.length) : Nat) : Int) (qV (kB (qV (uD (ts.getD ((p.getD k (A2.mk 0 0)).a1 % ts.length) (jB.mk 0 0 0 0)))) (ts.getD ((p.getD k (A2.mk 0 0)).a0 % ts.length) (jB.mk 0 0 0 0)))))])))] (zM <| zM <| zM <| zR (kT kK) <| zE (eQ pl56 fK zo56) <| zE (aA gQ fK zo56) <| zAS jK out [(jC.mk ((((p.getD k (A2.mk 0 0)).a0 % ts.length) : Nat) : Int) ((((p.getD k (A2.mk 0 0)).a1 % ts.length) : Nat) : Int) (qV (kB (qV (uD (ts.getD ((p.getD k (A2.mk 0 0)).a1 % ts.length) (jB.mk 0 0 0 0)))) (ts.getD ((p.getD k (A2.mk 0 0)).a0 % ts.length) (jB.mk 0 0 0 0)))))] rfl gQ fK by56 <| zM <| zF) ?_
    refine kx [(67, (jQ (k + 1)))] [] (zE (qQ (k + 1)) <| zM <| zZ) ?_
    exact ⟨(k + 1, out ++ [(jC.mk ((((p.getD k (A2.mk 0 0)).a0 % ts.length) : Nat) : Int) ((((p.getD k (A2.mk 0 0)).a1 % ts.length) : Nat) : Int) (qV (kB (qV (uD (ts.getD ((p.getD k (A2.mk 0 0)).a1 % ts.length) (jB.mk 0 0 0 0)))) (ts.getD ((p.getD k (A2.mk 0 0)).a0 % ts.length) (jB.mk 0 0 0 0)))))]), wk, ⟨by omega, by rw [p2_s (A2.mk 0 0) (by omega), md_y (show (p2 (p.getD k (A2.mk 0 0))).1 % ts.length ≠ (p2 (p.getD k (A2.mk 0 0))).2 % ts.length by show ((p.getD k (A2.mk 0 0)).a0 % ts.length) ≠ ((p.getD k (A2.mk 0 0)).a1 % ts.length); omega), ho]; rfl⟩, (by first | omega | (dsimp only; omega))⟩
  ·replace h11 := of_decide_eq_false h11
   refine jW <| jA <| kx [(4, (.own 2 56 6 out.length)), (5, (vb true))] [] (zM <| zM <| zM <| zZ) ?_
   refine kY (wk (l := [(4, (.own 2 56 6 out.length)), (5, (vb true))]) (b := [(2, some (xY jK out))])) ?_
   refine kY (sim_ren (S' := [(4, (.own 0 56 6 out.length)), (5, (vb true))]) (B' := [(0, some (xY jK out))]) 0 2) ?_
   have hR : mdR ts p = out := by unfold mdR; rw [if_neg (by rw [hany]; decide), ho, show k = p.length by omega, List.take_length]
   rw [hR, show mdB ts = true by unfold mdB; rw [hany]; rfl]
   refine jI ⟨dE (by kernel_rfl), aF (by kernel_rfl), .inr (.inr ⟨4, 5, 0, 56, 6, out.length, (.val (.bool (true))), rfl, rfl, rfl, ?_⟩)⟩
   rfl
end Go.Proofs.YtihgdjljnaekmaaGreat
set_option linter.unusedVariables false
set_option linter.unusedSimpArgs false
namespace Go.Fid
section
variable {n : Nat} {es : List jC} {x : jC}
theorem getD_app {k : Nat} (h : k < es.length) : (es ++ [x]).getD k e0 = es.getD k e0 := by
  rw [List.getD_eq_getElem?_getD, List.getElem?_append_left h, ← List.getD_eq_getElem?_getD]
theorem getD_last : (es ++ [x]).getD es.length e0 = x := by
  rw [List.getD_eq_getElem?_getD, List.getElem?_append_right (Nat.le_refl _), Nat.sub_self]; rfl
theorem tPar_app (g : Bool) : ∀ {k : Nat}, k ≤ es.length → kN g n (es ++ [x]) k = kN g n es k
  | 0, _ => rfl
  | k + 1, h => by
    have ih := tPar_app g (k := k) (by omega)
    have e := getD_app (es := es) (x := x) (k := k) (by omega)
    unfold kN
    rw [ih, e]
theorem tV_app : ∀ {k : Nat}, k ≤ es.length → ∀ j, tV n (es ++ [x]) k j = tV n es k j
  | 0, _, _ => rfl
  | k + 1, h, j => by
    have ih := fun j => tV_app (k := k) (by omega) j
    have e := getD_app (es := es) (x := x) (k := k) (by omega)
    have ep := tPar_app (n := n) (es := es) (x := x) true (k := k) (by omega)
    unfold tV
    rw [ep, e]
    simp only [ih]
theorem aV_app (h : pA (nV n es) x = pB (nV n es) x) (j : Nat) : aV n (es ++ [x]) j = aV n es j := by
  have ep := tPar_app (n := n) (es := es) (x := x) true (Nat.le_refl es.length)
  have ev := tV_app (n := n) (es := es) (x := x) (Nat.le_refl es.length) j
  have h' : pA (kN true n es es.length) x = pB (kN true n es es.length) x := h
  unfold aV
  rw [List.length_append, List.length_singleton]
  have hd : tV n (es ++ [x]) (es.length + 1) j = tV n (es ++ [x]) es.length j := by
    show (if pA (kN true n (es ++ [x]) es.length) ((es ++ [x]).getD es.length e0) = pB (kN true n (es ++ [x]) es.length) ((es ++ [x]).getD es.length e0) then _ else _) = _
    rw [ep, getD_last, if_pos h']
  rw [hd, ev]
theorem eok_app (he : vS n es) (hx : EOkE n x) : vS n (es ++ [x]) := fun y hy => by
  rcases List.mem_append.1 hy with h | h
  · exact he _ h
  · rw [List.mem_singleton.1 h]; exact hx
end
section
variable {ts : List jB} {l : List (Nat × Nat)}
theorem md_uniq (hs : allSm ts) (h1 : 1 ≤ ts.length) {k : Nat} (hk : k < ts.length) : yG (aV ts.length (mdL ts l) k) (kB (uD (qZ ts ((nV ts.length (mdL ts l)).getD k 0).toNat)) (qZ ts k)) := by
  have he := md_ok (l := l) hs h1
  have hW := md_sol (l := l) hs h1
  refine tV_uniq he (qZ ts) hW.1 (Nat.le_refl _) (fun i hi => ?_) hk
  obtain ⟨i', hil, e⟩ := nT hi
  exact hW.2 _ (mem_getD (by omega))
theorem par_lt (hs : allSm ts) (h1 : 1 ≤ ts.length) {k : Nat} (hk : k < ts.length) : 0 ≤ (nV ts.length (mdL ts l)).getD k 0 ∧ ((nV ts.length (mdL ts l)).getD k 0).toNat < ts.length := by
  have := nO (md_ok (l := l) hs h1) (Nat.le_refl (mdL ts l).length) hk
  unfold nV; omega
theorem md_lop (hs : allSm ts) (h1 : 1 ≤ ts.length) (h6 : ts.length ≤ 64) (hl : (mdL ts l).length ≤ 256) : qO ((ts.length : Nat) : Int) (mdL ts l) = 0 :=
  lop_of (by omega) (by omega) hl (by rw [Int.toNat_natCast]; exact md_ok hs h1)
theorem md_con (hs : allSm ts) (h1 : 1 ≤ ts.length) (hl : qO ((ts.length : Nat) : Int) (mdL ts l) = 0) (hc : eT ((ts.length : Nat) : Int) (mdL ts l) = 0) : conV ((ts.length : Nat) : Int) (mdL ts l) = true := by
  obtain ⟨b1, b2⟩ := con_0 hl
  rw [Int.toNat_natCast] at b1 b2
  rw [b1] at hc
  rw [b2, cn_sol (md_ok hs h1) hc]
  exact ⟨_, md_sol hs h1⟩
theorem md_same (hs : allSm ts) (h1 : 1 ≤ ts.length) (hc : yH ts.length (mdL ts l) = 0) {k : Nat} (hk : k < ts.length) :
    eY (qV (kB (qV (uD (qZ ts ((nV ts.length (mdL ts l)).getD k 0).toNat))) (qZ ts k))) (qZ (uL ts.length (mdL ts l)) k) = true := by
  have he := md_ok (l := l) hs h1
  have sr := cK hs (par_lt (l := l) hs h1 hk).2
  have sk := cK hs hk
  have hcz := gU (xK sr.2.1) (gL sr.2)
  have hnz := xB hcz.1 sk.2.1
  rw [sameQ_iff (gU hnz (cA sr sk)) ((abs_ok he hc).at hk), absL_at he hc hk]
  refine (qV_eq hnz (cA sr sk)).trans ?_
  refine yG.trans ?_ (cP (fJ he k)).symm
  refine yG.trans ?_ (md_uniq hs h1 hk).symm
  exact (qV_eq (xK sr.2.1) (gL sr.2)).mul (yG.refl _)
theorem md_wrong (hs : allSm ts) (h1 : 1 ≤ ts.length) {x : jC} (hx : EOkE ts.length x) (hp : (nV ts.length (mdL ts l)).getD x.fr.toNat 0 = (nV ts.length (mdL ts l)).getD x.to_.toNat 0)
    (hq : eY (qV (kB (qV (uD (qZ ts x.to_.toNat))) (qZ ts x.fr.toNat))) x.turn = false) (hc : cnC ts.length (mdL ts l ++ [x]) = 0) : cnV ts.length (mdL ts l ++ [x]) = false := by
  have he := md_ok (l := l) hs h1
  have he2 := eok_app he hx
  cases hv : cnV ts.length (mdL ts l ++ [x]) with
  | false => rfl
  | true =>
    exfalso
    obtain ⟨W, hW⟩ := (cn_sol he2 hc).1 hv
    have ha := (aV_sol he2 hW).2 x (List.mem_append_right _ (by simp))
    unfold agE at ha
    rw [aV_app hp, aV_app hp] at ha
    obtain ⟨m1, m2⟩ := eok_lt hx
    have u1 := md_uniq (l := l) hs h1 m1
    have u2 := md_uniq (l := l) hs h1 m2
    rw [hp] at u1
    have sr := cK hs (par_lt (l := l) hs h1 m2).2
    have st := cK hs m2
    have sf := cK hs m1
    have e1 := u1.symm.trans (ha.trans (u2.mul (yG.refl x.turn)))
    have e2 := (yG.refl (qZ ts ((nV ts.length (mdL ts l)).getD x.to_.toNat 0).toNat)).mul e1
    rw [vC (uD _), ← vC, ← vC, qmul_cj, mE, mE, q1_mul, q1_mul] at e2
    have hn := mT.1 sr.2.1
    have e3 : yG (qZ ts x.fr.toNat) (kB (qZ ts x.to_.toNat) x.turn) := (yG.sc hn _).symm.trans (e2.trans (yG.sc hn _))
    have hcz := gU (xK st.2.1) (gL st.2)
    have hnz := xB hcz.1 sf.2.1
    have : eY (qV (kB (qV (uD (qZ ts x.to_.toNat))) (qZ ts x.fr.toNat))) x.turn = true := by
      rw [sameQ_iff (gU hnz (cA st sf)) hx.q]
      refine (qV_eq hnz (cA st sf)).trans ?_
      refine ((qV_eq (xK st.2.1) (gL st.2)).mul (yG.refl _)).trans ?_
      exact (qdiv st.2.1 hx.q.1).1 e3
    rw [this] at hq; cases hq
end
end Go.Fid
