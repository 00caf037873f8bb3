/- Part 28 of a proof: rules, plain facts, and functions walked. -/
import Derived.Test.YtnajallgoaiahaaGreatDoorM27
import Derived.Test.YtnajallgoaiahaaGreatDoorM26
namespace Go.Proofs.YtnajallgoaiahaaGreatDoor
open Go.Fid
set_option maxRecDepth 4000
set_option linter.unusedVariables false
set_option linter.unusedSimpArgs false
theorem by3 : xW Tryz.prog 3 = some 8 := by kernel_rfl
theorem cb130 : callB Tryz.prog 130 = true := by kernel_rfl
theorem el23 : uV Tryz.prog 23 = some (83, 7) := by kernel_rfl
theorem mE : uV Tryz.prog 102 = some (3, 1) := by kernel_rfl
theorem sh83 : qO Tryz.prog 83 = some (true, 7) := by kernel_rfl
theorem ze83 : xP Tryz.prog 83 = some [.int .i64 0, .int .i64 0, .int .i64 0, .bool false, .slice none 0 0, .bool false, .slice none 0 0] := by kernel_rfl
theorem zo83 : fS [.int .i64 0, .int .i64 0, .int .i64 0, .bool false, .slice none 0 0, .bool false, .slice none 0 0] [.val (.int .i64 0), .val (.int .i64 0), .val (.int .i64 0), .val (.bool false), .sl 140 1 [], .val (.bool false), .sl 140 1 []] := by simp [fS, Value.oneCell']
theorem j_sizes (t : List vT) (ht : TnsOk 1048576 t) (z : Int) : jV Tryz.prog 130 [(.sl 83 7 (List.map uW t)), (.val (.int .i64 (z)))] (.tup [(.sl 3 1 (List.map uH (tmL z t))), (.val (.int .i64 ((((tmC z t) : Nat) : Int))))]) := by
 refine jJ Tryz.func130 rfl cb130 rfl ?_
 show qI _ _ _ _ ⟨[(0, (vl 83 7 uW t)), (1, (vi z))], []⟩
 refine jB <| kx [] [] (zE (fH 3 1) <| zM <| zZ) ?_
 refine jB <| jB <| kx [(15, (vb (decide (z < 0) || decide (64 < z))))] [] ?_ ?_
 ·refine zM <| zE xK <| zE (oV (vb (decide (z < 0))) (kY (by kernel_rfl))) <| ?_
  rcases hb1 : (decide (z < 0)) with _ | _
  ·replace hb1 := of_decide_eq_false hb1
   exact zM <| zE hC <| zE cU <| zZ
  ·replace hb1 := of_decide_eq_true hb1
   exact zK <| zK <| zE vY <| zZ
 refine jH (b := (decide (z < 0) || decide (64 < z))) rfl (fun h2 => ?_) (fun h2 => ?_)
 ·refine jB <| kx [(4, (vl 3 1 uH [])), (5, (jW 2))] [] (zE (fH 3 1) <| zM <| zZ) ?_
  refine jG ⟨_, (.tmp (d := (.sl 3 1 (List.map uH []))) rfl (.tmp (d := (.val (.int .i64 (2)))) rfl .nil)), ?_⟩
  have he := zb_t (t := t) h2
  rw [he.1, he.2]; rfl
 ·have hz0 := h2
  refine jF <| jB <| jB <| kx [(18, (vb (((t.length : Nat) : Int) == 0)))] [] (zM <| zE (vG el23) <| zE nF <| zZ) ?_
  refine jH (b := (((t.length : Nat) : Int) == 0)) rfl (fun h3 => ?_) (fun h3 => ?_)
  ·replace h3 := eq_of_beq h3
   refine jB <| kx [(4, (vl 3 1 uH [])), (5, (jW 1))] [] (zE (fH 3 1) <| zM <| zZ) ?_
   refine jG ⟨_, (.tmp (d := (.sl 3 1 (List.map uH []))) rfl (.tmp (d := (.val (.int .i64 (1)))) rfl .nil)), ?_⟩
   have he := tm_l0 hz0 (show t.length = 0 by omega)
   rw [he.1, he.2]; rfl
  ·replace h3 := ne_of_beq_false h3
   have h0 := h3
   refine jF <| jB <| jB <| kx [(21, (vb (decide (400 < ((t.length : Nat) : Int)))))] [] (zM <| zE (vG el23) <| zE hC <| zZ) ?_
   refine jH (b := decide (400 < ((t.length : Nat) : Int))) rfl (fun h4 => ?_) (fun h4 => ?_)
   ·replace h4 := of_decide_eq_true h4
    refine jB <| kx [(4, (vl 3 1 uH [])), (5, (jW 3))] [] (zE (fH 3 1) <| zM <| zZ) ?_
    refine jG ⟨_, (.tmp (d := (.sl 3 1 (List.map uH []))) rfl (.tmp (d := (.val (.int .i64 (3)))) rfl .nil)), ?_⟩
    have he := tm_lb hz0 (show 400 < t.length by omega)
    rw [he.1, he.2]; rfl
   ·replace h4 := of_decide_eq_false h4
    have h400 := h4
    refine jF <| jB <| kx [(6, (.own 0 3 1 t.length))] [(0, some (bm uH (List.replicate t.length 0)))] (zM <| zE (vG el23) <| zN (oMk 0 uH (0 : Int) t.length t.length mE ze3 zo3 by3) <| zM <| zZ) ?_
    refine jB <| jB <| kx [(25, (vl 83 7 uW t)), (26, (jW t.length)), (27, (jW 0))] [] (zM <| zE (vG el23) <| zM <| zZ) ?_
    refine jI <| kN (α := Nat × List Int) (fun (k, o) => ⟨[(1, (vi z)), (6, (.own 0 3 1 t.length)), (25, (vl 83 7 uW t)), (26, (jW t.length)), (27, (jW k))], [(0, some (bm uH o))]⟩) (fun (k, o) => k ≤ t.length ∧ szI t k o ∧ szUp z t k) (fun (k, o) => t.length - k) (0, List.replicate t.length 0) wk ⟨Nat.zero_le _, szI_0, szUp_0 _ _⟩ ?_
    rintro ⟨k, o⟩ ⟨hk, ho, hu⟩
    have qV := ho.1
    refine jB <| kx [(28, (vb (decide (((k : Nat) : Int) < ((t.length : Nat) : Int)))))] [] (zE xK <| zZ) ?_
    refine jB <| jH rfl (fun h5 => ?_) (fun h5 => ?_)
    ·replace h5 := of_decide_eq_true h5
     have hR := tmr hz0 h5 h400 hu
     have hkl := hR.kl
     refine jF <| jB <| jI <| jB <| kx [(7, (jW k)), (8, (.ref 1 0))] [(1, some (bx (uW (t.getD k tz))))] (zM <| zE (xM el23 k (tz : vT)) <| zE (dK sh83) <| zH (qS 1 ze83 zo83) <| zM <| zT (qC sh83) <| zZ) ?_
     refine jB <| kx [(9, (vi (cV ((t.getD k tz).op))))] [] (zE (qH mU) <| zR (qP sh81) <| zE (jX (j_kids ((t.getD k tz).op))) <| zM <| zZ) ?_
     refine jB <| jB <| kx [(72, (vb (((decide ((cV ((t.getD k tz).op)) < 0) || (decide ((cV ((t.getD k tz).op)) < 2) && ((t.getD k tz).b != 0))) || (((t.getD k tz).op == 0) && (((t.getD k tz).a != 0) || !(kP ((t.getD k tz).n))))) || (((t.getD k tz).op != 0) && !(unsB ((t.getD k tz).n))))))] [] ?_ ?_
     ·refine zM <| zE xK <| zE (oV (vb (decide ((cV ((t.getD k tz).op)) < 0))) (kY (by kernel_rfl))) <| ?_
      rcases hb6 : (decide ((cV ((t.getD k tz).op)) < 0)) with _ | _
      ·replace hb6 := of_decide_eq_false hb6
       refine zM <| zE xK <| zE (oV (vb (decide ((cV ((t.getD k tz).op)) < 2))) (kY (by kernel_rfl))) <| ?_
       rcases hb7 : (decide ((cV ((t.getD k tz).op)) < 2)) with _ | _
       ·replace hb7 := of_decide_eq_false hb7
        refine zK <| zK <| zK <| zE yI <| zE yI <| zM <| zE (qH mU) <| zR (qP sh81) <| zE nF <| zE (oV (vb ((t.getD k tz).op == 0)) (kY (by kernel_rfl))) <| ?_
        rcases hb8 : ((t.getD k tz).op == 0) with _ | _
        ·replace hb8 := ne_of_beq_false hb8
         refine zK <| zK <| zK <| zK <| zK <| zK <| zK <| zK <| zK <| zE yI <| zE yI <| zM <| zE (qH mU) <| zR (qP sh81) <| zE cS <| zE (oV (vb ((t.getD k tz).op != 0)) (kY (by kernel_rfl))) <| ?_
         rcases hb9 : ((t.getD k tz).op != 0) with _ | _
         ·replace hb9 := bne_eq_false_iff_eq.1 hb9
          exact zK <| zK <| zK <| zK <| zE yI <| zE yI <| zZ
         ·replace hb9 := bne_iff_ne.1 hb9
          exact zE (qH fo83_3) <| zR (kR jR) <| zE (jX (j_unset ((t.getD k tz).n) (jN (t.getD k tz).n) (tn_get ht (show k < t.length by omega)))) <| zE mM <| zE eV <| zE cU <| zZ
        ·replace hb8 := eq_of_beq hb8
         refine zE (qH cY) <| zR (qP zD) <| zE cS <| zE (oV (vb ((t.getD k tz).a != 0)) (kY (by kernel_rfl))) <| ?_
         rcases hb10 : ((t.getD k tz).a != 0) with _ | _
         ·replace hb10 := bne_eq_false_iff_eq.1 hb10
          refine zE (qH fo83_3) <| zR (kR jR) <| zE (jX (nR ((t.getD k tz).n) (jN (t.getD k tz).n) (jP (tn_get ht (show k < t.length by omega)) (by decide)))) <| zE mM <| zE cU <| zE eV <| zE cU <| zE (oV (vb (false || (true && (false || !(kP ((t.getD k tz).n)))))) (kY (by kernel_rfl))) <| ?_
          rcases hb11 : (!(kP ((t.getD k tz).n))) with _ | _
          ·refine zE (qH mU) <| zR (qP sh81) <| zE cS <| zE (oV (vb ((t.getD k tz).op != 0)) (kY (by kernel_rfl))) <| ?_
           rcases hb12 : ((t.getD k tz).op != 0) with _ | _
           ·replace hb12 := bne_eq_false_iff_eq.1 hb12
            exact zK <| zK <| zK <| zK <| zE yI <| zE yI <| zZ
           ·replace hb12 := bne_iff_ne.1 hb12
            exact zE (qH fo83_3) <| zR (kR jR) <| zE (jX (j_unset ((t.getD k tz).n) (jN (t.getD k tz).n) (tn_get ht (show k < t.length by omega)))) <| zE mM <| zE eV <| zE cU <| zZ
          ·exact zK <| zK <| zK <| zK <| zK <| zK <| zK <| zK <| zK <| zE vY <| zZ
         ·replace hb10 := bne_iff_ne.1 hb10
          exact zK <| zK <| zK <| zK <| zE vY <| zE vY <| zE yI <| zM <| zK <| zK <| zK <| zK <| zK <| zK <| zK <| zK <| zK <| zE vY <| zZ
       ·replace hb7 := of_decide_eq_true hb7
        refine zE (qH fo83_2) <| zR (qP zD) <| zE cS <| zE eV <| zE cU <| zE (oV (vb (false || (true && ((t.getD k tz).b != 0)))) (kY (by kernel_rfl))) <| ?_
        rcases hb13 : ((t.getD k tz).b != 0) with _ | _
        ·replace hb13 := bne_eq_false_iff_eq.1 hb13
         refine zE (qH mU) <| zR (qP sh81) <| zE nF <| zE (oV (vb ((t.getD k tz).op == 0)) (kY (by kernel_rfl))) <| ?_
         rcases hb14 : ((t.getD k tz).op == 0) with _ | _
         ·replace hb14 := ne_of_beq_false hb14
          refine zK <| zK <| zK <| zK <| zK <| zK <| zK <| zK <| zK <| zE yI <| zE yI <| zM <| zE (qH mU) <| zR (qP sh81) <| zE cS <| zE (oV (vb ((t.getD k tz).op != 0)) (kY (by kernel_rfl))) <| ?_
          rcases hb15 : ((t.getD k tz).op != 0) with _ | _
          ·replace hb15 := bne_eq_false_iff_eq.1 hb15
           exact zK <| zK <| zK <| zK <| zE yI <| zE yI <| zZ
          ·replace hb15 := bne_iff_ne.1 hb15
           exact zE (qH fo83_3) <| zR (kR jR) <| zE (jX (j_unset ((t.getD k tz).n) (jN (t.getD k tz).n) (tn_get ht (show k < t.length by omega)))) <| zE mM <| zE eV <| zE cU <| zZ
         ·replace hb14 := eq_of_beq hb14
          refine zE (qH cY) <| zR (qP zD) <| zE cS <| zE (oV (vb ((t.getD k tz).a != 0)) (kY (by kernel_rfl))) <| ?_
          rcases hb16 : ((t.getD k tz).a != 0) with _ | _
          ·replace hb16 := bne_eq_false_iff_eq.1 hb16
           refine zE (qH fo83_3) <| zR (kR jR) <| zE (jX (nR ((t.getD k tz).n) (jN (t.getD k tz).n) (jP (tn_get ht (show k < t.length by omega)) (by decide)))) <| zE mM <| zE cU <| zE eV <| zE cU <| zE (oV (vb (false || (true && (false || !(kP ((t.getD k tz).n)))))) (kY (by kernel_rfl))) <| ?_
           rcases hb17 : (!(kP ((t.getD k tz).n))) with _ | _
           ·refine zE (qH mU) <| zR (qP sh81) <| zE cS <| zE (oV (vb ((t.getD k tz).op != 0)) (kY (by kernel_rfl))) <| ?_
            rcases hb18 : ((t.getD k tz).op != 0) with _ | _
            ·replace hb18 := bne_eq_false_iff_eq.1 hb18
             exact zK <| zK <| zK <| zK <| zE yI <| zE yI <| zZ
            ·replace hb18 := bne_iff_ne.1 hb18
             exact zE (qH fo83_3) <| zR (kR jR) <| zE (jX (j_unset ((t.getD k tz).n) (jN (t.getD k tz).n) (tn_get ht (show k < t.length by omega)))) <| zE mM <| zE eV <| zE cU <| zZ
           ·exact zK <| zK <| zK <| zK <| zK <| zK <| zK <| zK <| zK <| zE vY <| zZ
          ·replace hb16 := bne_iff_ne.1 hb16
           exact zK <| zK <| zK <| zK <| zE vY <| zE vY <| zE yI <| zM <| zK <| zK <| zK <| zK <| zK <| zK <| zK <| zK <| zK <| zE vY <| zZ
        ·replace hb13 := bne_iff_ne.1 hb13
         exact zK <| zK <| zK <| zK <| zK <| zK <| zK <| zK <| zK <| zK <| zK <| zK <| zK <| zK <| zE vY <| zM <| zK <| zK <| zK <| zK <| zK <| zK <| zK <| zK <| zK <| zE vY <| zZ
      ·replace hb6 := of_decide_eq_true hb6
       exact zK <| zK <| zK <| zK <| zK <| zK <| zK <| zE vY <| zM <| zK <| zK <| zK <| zK <| zK <| zK <| zK <| zK <| zK <| zK <| zK <| zK <| zK <| zK <| zE vY <| zM <| zK <| zK <| zK <| zK <| zK <| zK <| zK <| zK <| zK <| zE vY <| zZ
     refine jH rfl (fun h19 => ?_) (fun h19 => ?_)
     ·refine jB <| kx [(4, (vl 3 1 uH [])), (5, (jW 1))] [] (zE (fH 3 1) <| zM <| zZ) ?_
      refine jG ⟨_, (.tmp (d := (.sl 3 1 (List.map uH []))) rfl (.tmp (d := (.val (.int .i64 (1)))) rfl .nil)), ?_⟩
      have he := hR.bad h19
      rw [he.1, he.2]; rfl
     ·have hB := h19
      refine jF <| jB <| jB <| kx [(100, (vb ((decide (0 < (cV ((t.getD k tz).op))) && (decide ((t.getD k tz).a < 0) || decide (((k : Nat) : Int) ≤ (t.getD k tz).a))) || (decide (1 < (cV ((t.getD k tz).op))) && (decide ((t.getD k tz).b < 0) || decide (((k : Nat) : Int) ≤ (t.getD k tz).b))))))] [] ?_ ?_
      ·refine zM <| zE hC <| zE (oV (vb (decide (0 < (cV ((t.getD k tz).op))))) (kY (by kernel_rfl))) <| ?_
       rcases hb20 : (decide (0 < (cV ((t.getD k tz).op)))) with _ | _
       ·replace hb20 := of_decide_eq_false hb20
        refine zK <| zK <| zK <| zK <| zK <| zK <| zK <| zK <| zK <| zE yI <| zM <| zM <| zE hC <| zE (oV (vb (decide (1 < (cV ((t.getD k tz).op))))) (kY (by kernel_rfl))) <| ?_
        rcases hb21 : (decide (1 < (cV ((t.getD k tz).op)))) with _ | _
        ·replace hb21 := of_decide_eq_false hb21
         exact zK <| zK <| zK <| zK <| zK <| zK <| zK <| zK <| zK <| zE yI <| zE yI <| zZ
        ·replace hb21 := of_decide_eq_true hb21
         refine zE (qH fo83_2) <| zR (qP zD) <| zE xK <| zE (oV (vb (decide ((t.getD k tz).b < 0))) (kY (by kernel_rfl))) <| ?_
         rcases hb22 : (decide ((t.getD k tz).b < 0)) with _ | _
         ·replace hb22 := of_decide_eq_false hb22
          exact zE (qH fo83_2) <| zR (qP zD) <| zM <| zE oGe <| zE cU <| zE eV <| zE cU <| zZ
         ·replace hb22 := of_decide_eq_true hb22
          exact zK <| zK <| zK <| zK <| zE vY <| zE vY <| zE yI <| zZ
       ·replace hb20 := of_decide_eq_true hb20
        refine zE (qH cY) <| zR (qP zD) <| zE xK <| zE (oV (vb (decide ((t.getD k tz).a < 0))) (kY (by kernel_rfl))) <| ?_
        rcases hb23 : (decide ((t.getD k tz).a < 0)) with _ | _
        ·replace hb23 := of_decide_eq_false hb23
         refine zE (qH cY) <| zR (qP zD) <| zM <| zE oGe <| zE cU <| zE eV <| zE (oV (vb (true && (false || decide (((k : Nat) : Int) ≤ (t.getD k tz).a)))) (kY (by kernel_rfl))) <| ?_
         rcases hb24 : (false || decide (((k : Nat) : Int) ≤ (t.getD k tz).a)) with _ | _
         ·replace hb24 := of_decide_eq_false (p := (((k : Nat) : Int) ≤ (t.getD k tz).a)) hb24
          refine zM <| zE hC <| zE (oV (vb (decide (1 < (cV ((t.getD k tz).op))))) (kY (by kernel_rfl))) <| ?_
          rcases hb25 : (decide (1 < (cV ((t.getD k tz).op)))) with _ | _
          ·replace hb25 := of_decide_eq_false hb25
           exact zK <| zK <| zK <| zK <| zK <| zK <| zK <| zK <| zK <| zE yI <| zE yI <| zZ
          ·replace hb25 := of_decide_eq_true hb25
           refine zE (qH fo83_2) <| zR (qP zD) <| zE xK <| zE (oV (vb (decide ((t.getD k tz).b < 0))) (kY (by kernel_rfl))) <| ?_
           rcases hb26 : (decide ((t.getD k tz).b < 0)) with _ | _
           ·replace hb26 := of_decide_eq_false hb26
            exact zE (qH fo83_2) <| zR (qP zD) <| zM <| zE oGe <| zE cU <| zE eV <| zE cU <| zZ
           ·replace hb26 := of_decide_eq_true hb26
            exact zK <| zK <| zK <| zK <| zE vY <| zE vY <| zE yI <| zZ
         ·replace hb24 := of_decide_eq_true (p := (((k : Nat) : Int) ≤ (t.getD k tz).a)) hb24
          exact zK <| zK <| zK <| zK <| zK <| zK <| zK <| zK <| zK <| zK <| zK <| zK <| zK <| zE vY <| zZ
        ·replace hb23 := of_decide_eq_true hb23
         exact zK <| zK <| zK <| zK <| zE vY <| zE vY <| zM <| zK <| zK <| zK <| zK <| zK <| zK <| zK <| zK <| zK <| zK <| zK <| zK <| zK <| zE vY <| zZ
      refine jH rfl (fun h27 => ?_) (fun h27 => ?_)
      ·refine jB <| kx [(4, (vl 3 1 uH [])), (5, (jW 5))] [] (zE (fH 3 1) <| zM <| zZ) ?_
       refine jG ⟨_, (.tmp (d := (.sl 3 1 (List.map uH []))) rfl (.tmp (d := (.val (.int .i64 (5)))) rfl .nil)), ?_⟩
       have he := hR.ord hB h27
       rw [he.1, he.2]; rfl
      ·have hO := h27
       refine jF <| jB <| jB <| kx [(114, (vb (((t.getD k tz).op == 1) && (decide ((t.getD k tz).a < 0) || decide (z ≤ (t.getD k tz).a)))))] [] ?_ ?_
       ·refine zE (qH mU) <| zR (qP sh81) <| zE nF <| zE (oV (vb ((t.getD k tz).op == 1)) (kY (by kernel_rfl))) <| ?_
        rcases hb28 : ((t.getD k tz).op == 1) with _ | _
        ·replace hb28 := ne_of_beq_false hb28
         exact zK <| zK <| zK <| zK <| zK <| zK <| zK <| zK <| zK <| zE yI <| zZ
        ·replace hb28 := eq_of_beq hb28
         refine zE (qH cY) <| zR (qP zD) <| zE xK <| zE (oV (vb (decide ((t.getD k tz).a < 0))) (kY (by kernel_rfl))) <| ?_
         rcases hb29 : (decide ((t.getD k tz).a < 0)) with _ | _
         ·replace hb29 := of_decide_eq_false hb29
          exact zE (qH cY) <| zR (qP zD) <| zM <| zE oGe <| zE cU <| zE eV <| zZ
         ·replace hb29 := of_decide_eq_true hb29
          exact zK <| zK <| zK <| zK <| zE vY <| zE vY <| zZ
       refine jH rfl (fun h30 => ?_) (fun h30 => ?_)
       ·refine jB <| kx [(4, (vl 3 1 uH [])), (5, (jW 2))] [] (zE (fH 3 1) <| zM <| zZ) ?_
        refine jG ⟨_, (.tmp (d := (.sl 3 1 (List.map uH []))) rfl (.tmp (d := (.val (.int .i64 (2)))) rfl .nil)), ?_⟩
        have he := hR.rng hB hO h30
        rw [he.1, he.2]; rfl
       ·have hN := ndr hR hB hO h30
        refine jF <| jB <| jI <| jB <| kx [(129, (vb ((cV ((t.getD k tz).op)) == 0)))] [] (zM <| zE nF <| zM <| zZ) ?_
        refine jH (b := ((cV ((t.getD k tz).op)) == 0)) rfl (fun h31 => ?_) (fun h31 => ?_)
        ·replace h31 := eq_of_beq h31
         have hv := szN_c (ss := szU t k) h31
         have hsl : (o.set k ((1 : Int))).length = o.length := List.length_set
         refine kx [] [(0, some (bm uH (o.set k 1)))] (zM <| zM <| zE (eF mE k) <| zT (oSp zD k (1 : Int)) <| zZ) ?_
         refine jB <| kx [(164, (vb (decide (4096 < ((o.set k 1).getD k 0)))))] [] (zM <| zM <| zE (eF mE k) <| zR (oLp zD k (0 : Int)) <| zE hC <| zZ) ?_
         refine jH (b := decide (4096 < ((o.set k 1).getD k 0))) rfl (fun h32 => ?_) (fun h32 => ?_)
         ·replace h32 := of_decide_eq_true h32
          refine jB <| kx [(4, (vl 3 1 uH [])), (5, (jW 3))] [] (zE (fH 3 1) <| zM <| zZ) ?_
          refine jG ⟨_, (.tmp (d := (.sl 3 1 (List.map uH []))) rfl (.tmp (d := (.val (.int .i64 (3)))) rfl .nil)), ?_⟩
          have he := hN.big hv (by omega) h32
          rw [he.1, he.2]; rfl
         ·replace h32 := of_decide_eq_false h32
          refine jF <| kx [(27, (jW (k + 1)))] [] (zE (vU (k + 1)) <| zM <| zZ) ?_
          exact ⟨(k + 1, o.set k 1), wk, (hN.next hv ho (by omega)), (by first | omega | (dsimp only; omega))⟩
        ·replace h31 := ne_of_beq_false h31
         have hk0 := h31
         obtain ⟨a1, a2, a3, a4, a5⟩ := hN.a ho hk0
         refine jB <| kx [(135, (vb ((t.getD k tz).op == 6)))] [] (zE (qH mU) <| zR (qP sh81) <| zE nF <| zM <| zZ) ?_
         refine jH (b := ((t.getD k tz).op == 6)) rfl (fun h33 => ?_) (fun h33 => ?_)
         ·replace h33 := eq_of_beq h33
          have hv := szN_n hk0 h33 a3
          have hsl : (o.set k ((o.getD (((t.getD k tz).a).toNat) 0))).length = o.length := List.length_set
          refine kx [] [(0, some (bm uH (o.set k (o.getD (((t.getD k tz).a).toNat) 0))))] (zM <| zM <| zM <| zE (qH cY) <| zR (qP zD) <| zE (eF mE (((t.getD k tz).a).toNat)) <| zR (oLp zD (((t.getD k tz).a).toNat) (0 : Int)) <| zE (eF mE k) <| zT (oSp zD k (o.getD (((t.getD k tz).a).toNat) 0)) <| zZ) ?_
          refine jB <| kx [(164, (vb (decide (4096 < ((o.set k (o.getD (((t.getD k tz).a).toNat) 0)).getD k 0)))))] [] (zM <| zM <| zE (eF mE k) <| zR (oLp zD k (0 : Int)) <| zE hC <| zZ) ?_
          refine jH rfl (fun h34 => ?_) (fun h34 => ?_)
          ·replace h34 := of_decide_eq_true h34
           refine jB <| kx [(4, (vl 3 1 uH [])), (5, (jW 3))] [] (zE (fH 3 1) <| zM <| zZ) ?_
           refine jG ⟨_, (.tmp (d := (.sl 3 1 (List.map uH []))) rfl (.tmp (d := (.val (.int .i64 (3)))) rfl .nil)), ?_⟩
           have he := hN.big hv (by omega) h34
           rw [he.1, he.2]; rfl
          ·replace h34 := of_decide_eq_false h34
           refine jF <| kx [(27, (jW (k + 1)))] [] (zE (vU (k + 1)) <| zM <| zZ) ?_
           exact ⟨(k + 1, o.set k (o.getD (((t.getD k tz).a).toNat) 0)), wk, (hN.next hv ho (by omega)), (by first | omega | (dsimp only; omega))⟩
         ·replace h33 := ne_of_beq_false h33
          have h6 := h33
          refine jB <| kx [(147, (vb ((t.getD k tz).op == 7)))] [] (zE (qH mU) <| zR (qP sh81) <| zE nF <| zM <| zZ) ?_
          refine jH (b := ((t.getD k tz).op == 7)) rfl (fun h35 => ?_) (fun h35 => ?_)
          ·replace h35 := eq_of_beq h35
           have hv := szN_q hk0 h35 a3
           have hsl : (o.set k (2 * (o.getD (((t.getD k tz).a).toNat) 0))).length = o.length := List.length_set
           refine kx [] [(0, some (bm uH (o.set k (2 * (o.getD (((t.getD k tz).a).toNat) 0)))))] (zM <| zM <| zM <| zE (qH cY) <| zR (qP zD) <| zE (eF mE (((t.getD k tz).a).toNat)) <| zR (oLp zD (((t.getD k tz).a).toNat) (0 : Int)) <| zE (zMl (2 * (o.getD (((t.getD k tz).a).toNat) 0))) <| zE (eF mE k) <| zT (oSp zD k (2 * (o.getD (((t.getD k tz).a).toNat) 0))) <| zZ) ?_
           refine jB <| kx [(164, (vb (decide (4096 < ((o.set k (2 * (o.getD (((t.getD k tz).a).toNat) 0))).getD k 0)))))] [] (zM <| zM <| zE (eF mE k) <| zR (oLp zD k (0 : Int)) <| zE hC <| zZ) ?_
           refine jH rfl (fun h36 => ?_) (fun h36 => ?_)
           ·replace h36 := of_decide_eq_true h36
            refine jB <| kx [(4, (vl 3 1 uH [])), (5, (jW 3))] [] (zE (fH 3 1) <| zM <| zZ) ?_
            refine jG ⟨_, (.tmp (d := (.sl 3 1 (List.map uH []))) rfl (.tmp (d := (.val (.int .i64 (3)))) rfl .nil)), ?_⟩
            have he := hN.big hv (by omega) h36
            rw [he.1, he.2]; rfl
           ·replace h36 := of_decide_eq_false h36
            refine jF <| kx [(27, (jW (k + 1)))] [] (zE (vU (k + 1)) <| zM <| zZ) ?_
            exact ⟨(k + 1, o.set k (2 * (o.getD (((t.getD k tz).a).toNat) 0))), wk, (hN.next hv ho (by omega)), (by first | omega | (dsimp only; omega))⟩
          ·replace h35 := ne_of_beq_false h35
           obtain ⟨b1, b2, b3, b4, b5⟩ := hN.b ho hk0 h6 h35
           have hv := szN_b hk0 h6 h35 a3 b3
           have hsl : (o.set k ((o.getD (((t.getD k tz).a).toNat) 0) + (o.getD (((t.getD k tz).b).toNat) 0))).length = o.length := List.length_set
           refine kd [] [(0, some (bm uH (o.set k ((o.getD (((t.getD k tz).a).toNat) 0) + (o.getD (((t.getD k tz).b).toNat) 0)))))] mo (wM <| wM <| wM <| wE (qH cY) <| wR (qP zD) <| wE (eF mE (((t.getD k tz).a).toNat)) <| wR (oLp zD (((t.getD k tz).a).toNat) (0 : Int)) <| wM <| wE (qH fo83_2) <| wR (qP zD) <| wE (eF mE (((t.getD k tz).b).toNat)) <| wR (oLp zD (((t.getD k tz).b).toNat) (0 : Int)) <| wE (zAd ((o.getD (((t.getD k tz).a).toNat) 0) + (o.getD (((t.getD k tz).b).toNat) 0))) <| wE (eF mE k) <| wT (oSp zD k ((o.getD (((t.getD k tz).a).toNat) 0) + (o.getD (((t.getD k tz).b).toNat) 0))) <| wZ) ?_
           refine jB <| kx [(164, (vb (decide (4096 < ((o.set k ((o.getD (((t.getD k tz).a).toNat) 0) + (o.getD (((t.getD k tz).b).toNat) 0))).getD k 0)))))] [] (zM <| zM <| zE (eF mE k) <| zR (oLp zD k (0 : Int)) <| zE hC <| zZ) ?_
           refine jH rfl (fun h37 => ?_) (fun h37 => ?_)
           ·replace h37 := of_decide_eq_true h37
            refine jB <| kx [(4, (vl 3 1 uH [])), (5, (jW 3))] [] (zE (fH 3 1) <| zM <| zZ) ?_
            refine jG ⟨_, (.tmp (d := (.sl 3 1 (List.map uH []))) rfl (.tmp (d := (.val (.int .i64 (3)))) rfl .nil)), ?_⟩
            have he := hN.big hv (by omega) h37
            rw [he.1, he.2]; rfl
           ·replace h37 := of_decide_eq_false h37
            refine jF <| kx [(27, (jW (k + 1)))] [] (zE (vU (k + 1)) <| zM <| zZ) ?_
            exact ⟨(k + 1, o.set k ((o.getD (((t.getD k tz).a).toNat) 0) + (o.getD (((t.getD k tz).b).toNat) 0))), wk, (hN.next hv ho (by omega)), (by first | omega | (dsimp only; omega))⟩
    ·replace h5 := of_decide_eq_false h5
     refine kL <| jB <| kx [(4, (.own 0 3 1 t.length)), (5, (jW 0))] [] (zM <| zM <| zM <| zZ) ?_
     refine qE (vZ (t := 4) (k := 0) (es := List.map uH o) rfl rfl (uM _ _ (fun _ => rfl)) (vC _ _ qV) (vM _ _ (fun _ => rfl) qV)) ?_
     refine jG ⟨_, (.tmp (d := (.sl 3 1 (List.map uH o))) rfl (.tmp (d := (.val (.int .i64 (0)))) rfl .nil)), ?_⟩
     have he := tm_end hz0 h0 h400 hk h5 ho hu
     rw [he.1, he.2]; rfl
end Go.Proofs.YtnajallgoaiahaaGreatDoor
namespace Go.Proofs.YtnajallgoaiahaaGreatDoor
open Go.Fid
set_option maxRecDepth 4000
set_option linter.unusedVariables false
set_option linter.unusedSimpArgs false
theorem cb67 : callB Tryz.prog 67 = true := by kernel_rfl
theorem cb73 : callB Tryz.prog 73 = true := by kernel_rfl
theorem fo161_4 : zU Tryz.prog 161 4 = some 4 := by kernel_rfl
theorem pl161 : dC Tryz.prog 161 = some [(0, 1), (1, 1), (2, 1), (3, 1), (4, 1)] := by kernel_rfl
theorem ze161 : xP Tryz.prog 161 = some [.int .i64 0, .int .i64 0, .int .i64 0, .slice none 0 0, .bool false] := by kernel_rfl
theorem zn161 : fS [.int .i64 0, .int .i64 0, .int .i64 0, .slice none 0 0, .bool false] [.val (.int .i64 0), .val (.int .i64 0), .val (.int .i64 0), .val (.slice none 0 0), .val (.bool false)] := by simp [fS, Value.oneCell']
theorem hB12 (n : Nat) (L M : List JV) (h : L = M) : ([(0, some [(jW n), (jW 1), (vi (-1)), (.own 18 95 10 ((List.map uD (M)).length)), (vb false)]), (18, some (xD kC (List.map uD (M))))] : BS).map (fun e => (e.1, e.2.map fun c => c.map (SV.ren (xn 12 18)))) = ([(0, some [(jW n), (jW 1), (vi (-1)), (.own 12 95 10 ((List.map uD (L)).length)), (vb false)]), (12, some (xD kC (List.map uD (L))))] : BS).map (fun e => (xn 12 18 e.1, e.2)) := by
 subst h
 simp only [List.map_cons, List.map_nil, Option.map_some, xD, nD]
 rfl
def StepAt (bv : List R2) (L : List JV) (x : vT) : Prop := mL Tryz.prog 126 [(.ref 0 0), (.d (uW x)), (vl 61 8 jO (List.map uF bv))] [(0, some [(jW bv.length), (jW 1), (vi (-1)), (.own 1 95 10 ((List.map uD (L)).length)), (vb false)]), (1, some (xD kC (List.map uD (L))))] (.d (.tup [])) [(0, some [(jW bv.length), (jW 1), (vi (-1)), (.own 18 95 10 ((List.map uD (L ++ [nJ bv L x])).length)), (vb false)]), (18, some (xD kC (List.map uD (L ++ [nJ bv L x]))))]
theorem e_step (x : vT) (bv : List R2) (hbx : ∀ x ∈ bv, GL 1048576 x) (L : List JV) (hst : StepAt bv L x) : mL Tryz.prog 126 [(.ref 0 0), (.d (uW x)), (vl 61 8 jO (List.map uF bv))] [(0, some [(jW bv.length), (jW 1), (vi (-1)), (.own 1 95 10 ((List.map uD (L)).length)), (vb false)]), (1, some (xD kC (List.map uD (L))))] (.d (.tup [])) [(0, some [(jW bv.length), (jW 1), (vi (-1)), (.own 18 95 10 ((List.map uD (L ++ [nJ bv L x])).length)), (vb false)]), (18, some (xD kC (List.map uD (L ++ [nJ bv L x]))))] := hst
structure JRunP (bv : List R2) (t : List vT) : Prop where
 run : JRun bv t
 st : ∀ k, k < t.length → StepAt bv (jU bv t k) (t.getD k tz)
theorem runs_of {bv : List R2} {ts : List (List vT)} (h : ∀ t ∈ ts, JRunP bv t) : ∀ t ∈ ts, JRun bv t := fun t ht => (h t ht).run
theorem j_chk (t : List vT) (ht : TnsOk 1048576 t) (z : Int) : jV Tryz.prog 73 [(.sl 83 7 (List.map uW t)), (.val (.int .i64 (z)))] (.val (.int .i64 ((((tmC z t) : Nat) : Int)))) := by
 refine jJ Tryz.func73 rfl cb73 rfl ?_
 show qI _ _ _ _ ⟨[(0, (vl 83 7 uW t)), (1, (vi z))], []⟩
 refine jB <| kx [] [] (zM <| zZ) ?_
 refine jB <| kx [(6, (jW (tmC z t)))] [] (zM <| zM <| zE (jX (j_sizes t ht z)) <| zM <| zE uZ <| zE uZ <| zM <| zM <| zZ) ?_
 refine jB <| kx [(4, (jW (tmC z t)))] [] (zM <| zM <| zZ) ?_
 refine jG ⟨_, (.tmp (d := (.val (.int .i64 ((((tmC z t) : Nat) : Int))))) rfl .nil), ?_⟩
 rfl
theorem j_jets (t : List vT) (ht : TnsOk 1048576 t) (bv : List R2) (hbx : ∀ x ∈ bv, GL 1048576 x) (hr : JRunP bv t) : jV Tryz.prog 67 [(.sl 83 7 (List.map uW t)), (.sl 61 8 (List.map jO (List.map uF bv))), (.val (.int .i64 (((1 : Nat) : Int)))), (.val (.int .i64 (-1)))] (.tup [(kC (uD (gO bv t))), (.val (.int .i64 (((0 : Nat) : Int))))]) := by
 have h0 := tm_0 hr.run.c0
 let y3 := (kG.mk (jE.mk (jD.mk false []) (jD.mk false [])) (jE.mk (jD.mk false []) (jD.mk false [])))
 let y2 := (bx (kC (cQ.mk y3 [] [])))
 let y1 := (bx (.agg [(.val (.int .i64 (((bv.length : Nat) : Int)))), (.val (.int .i64 (((1 : Nat) : Int)))), (.val (.int .i64 (-1))), (.val (.slice none 0 0)), (.val (.bool (false)))]))
 refine jJ Tryz.func67 rfl cb67 rfl ?_
 show qI _ _ _ _ ⟨[(0, (vl 83 7 uW t)), (1, (vl 61 8 jO (List.map uF bv))), (2, (jW 1)), (3, (vi (-1)))], []⟩
 refine jB <| kx [(8, (.ref 0 0))] [(0, some y2)] (zN (qS 0 ze95 zo95) <| zM <| zZ) ?_
 refine jB <| jB <| kx [(16, (vl 61 8 jO (List.map uF bv))), (17, (jW bv.length)), (18, (jW 0))] [] (zM <| zE (oLn eA bv.length) <| zM <| zZ) ?_
 refine jI <| kN (α := Nat) (fun i => ⟨[(0, (vl 83 7 uW t)), (1, (vl 61 8 jO (List.map uF bv))), (2, (jW 1)), (3, (vi (-1))), (8, (.ref 0 0)), (16, (vl 61 8 jO (List.map uF bv))), (17, (jW bv.length)), (18, (jW i))], [(0, some y2)]⟩) (fun i => i ≤ bv.length) (fun i => bv.length - i) 0 wk (Nat.zero_le _) ?_
 rintro i hi
 refine jB <| kx [(19, (vb (decide (((i : Nat) : Int) < ((bv.length : Nat) : Int)))))] [] (zE xK <| zZ) ?_
 refine jB <| jH rfl (fun h1 => ?_) (fun h1 => ?_)
 ·replace h1 := of_decide_eq_true h1
  refine jF <| jB <| jI <| jB <| kx [(11, (.ref 1 0))] [(1, some (bx (jO (uF (bv.getD i z2)))))] (zE (oXm eA uF i z2) <| zE (dK kZ) <| zN (qS 1 uO uY) <| zT (qC kZ) <| zZ) ?_
  refine jB <| kx [(24, (vb false))] [] (zR (kR kZ) <| zE (jX (by have h := i_valid (uF (bv.getD i z2)) (yE (⟨qQ (jP (kA (eG hbx (by decide) i).1) (by decide : 1048576 ≤ 1048576)), qQ (jP (kA (eG hbx (by decide) i).2.1) (by decide : 1048576 ≤ 1048576))⟩) (by decide)); rw [show xN (uF (bv.getD i z2)) = true from nB (eG hbx (by decide) i).2.2] at h; exact h)) <| zE mM <| zZ) ?_
  refine qA ?_
  refine jF <| kx [(18, (jW (i + 1)))] [] (zE (vU (i + 1)) <| zM <| zZ) ?_
  exact ⟨i + 1, wk, (by omega), (by first | omega | (dsimp only; omega))⟩
 ·replace h1 := of_decide_eq_false h1
  refine kL <| jB <| jB <| kx [(36, (vb false))] [] (zM <| zE (xI false xK) <| zM <| zM <| zE (xI false hC) <| zE yI <| zM <| zM <| zE (xI false hC) <| zE yI <| zZ) ?_
  refine qA ?_
  refine jF <| jB <| jB <| kx [(12, (jW (tmC ((bv.length : Nat) : Int) t)))] [] (zM <| zM <| zE (oLn eA bv.length) <| zE (jX (j_chk t ht ((bv.length : Nat) : Int))) <| zM <| zZ) ?_
  refine jB <| kx [(43, (vb false))] [] (zM <| zE (xI false cS (by exact bne_eq_false_iff_eq.2 (by rw [show (tmC ((bv.length : Nat) : Int) t) = 0 from hr.run.c0] <;> rfl))) <| zZ) ?_
  refine qA ?_
  refine jF <| jB <| kx [(13, (.ref 2 0))] [(2, some y1)] (zM <| zE (oLn eA bv.length) <| zM <| zM <| zE (eJ pl161 ze161 zn161) <| zN (vL 2) <| zM <| zZ) ?_
  refine jB <| jB <| pwp_own 2 3 3 95 10 (cs := y1) (h := ?_)
  refine qE (wk (l := [(0, (vl 83 7 uW t)), (1, (vl 61 8 jO (List.map uF bv))), (8, (.ref 0 0)), (13, (.ref 2 0))]) (b := [(0, some y2), (2, some [(jW bv.length), (jW 1), (vi (-1)), (.own 3 95 10 0), (vb false)]), (3, some (xD kC []))])) ?_
  refine kx [(52, (vl 83 7 uW t)), (53, (jW t.length)), (54, (jW 0))] [] (zM <| zE (vG el23) <| zM <| zZ) ?_
  refine jI <| kN (α := Nat) (fun k => ⟨[(1, (vl 61 8 jO (List.map uF bv))), (8, (.ref 0 0)), (13, (.ref 2 0)), (52, (vl 83 7 uW t)), (53, (jW t.length)), (54, (jW k))], [(0, some y2), (2, some [(jW bv.length), (jW 1), (vi (-1)), (.own 3 95 10 ((List.map uD (jU bv t k)).length)), (vb false)]), (3, some (xD kC (List.map uD (jU bv t k))))]⟩) (fun k => k ≤ t.length) (fun k => t.length - k) 0 wk (Nat.zero_le _) ?_
  rintro k hk
  have hju := jU_len bv t k
  have hjm : (List.map uD (jU bv t k)).length = k := by rw [List.length_map, hju]
  have hup := hr.run.upto hk
  refine jB <| kx [(55, (vb (decide (((k : Nat) : Int) < ((t.length : Nat) : Int)))))] [] (zE xK <| zZ) ?_
  refine jB <| jH rfl (fun h2 => ?_) (fun h2 => ?_)
  ·replace h2 := of_decide_eq_true h2
   refine jF <| jB <| jI <| jB <| kx [(15, (.ref 4 0))] [(4, some (bx (uW (t.getD k tz))))] (zE (xM el23 k (tz : vT)) <| zE (dK sh83) <| zH (qS 4 ze83 zo83) <| zT (qC sh83) <| zZ) ?_
   refine jB <| kf [] [(2, some [(jW bv.length), (jW 1), (vi (-1)), (.own 21 95 10 ((List.map uD ((jU bv t k) ++ [(nJ bv (jU bv t k) (t.getD k tz))])).length)), (vb false)]), (21, some (xD kC (List.map uD ((jU bv t k) ++ [(nJ bv (jU bv t k) (t.getD k tz))])))), (10, none), (11, none), (12, none), (13, none), (14, none), (15, none), (16, none), (17, none), (18, none), (19, none), (20, none), (3, none), (5, none), (6, none), (7, none), (8, none), (9, none)] (zM <| zR (kR sh83) <| zM <| zS (B2 := [(2, some [(jW bv.length), (jW 1), (vi (-1)), (.own 3 95 10 ((List.map uD (jU bv t k)).length)), (vb false)]), (3, some (xD kC (List.map uD (jU bv t k))))]) (B2' := [(2, some [(jW bv.length), (jW 1), (vi (-1)), (.own 21 95 10 ((List.map uD ((jU bv t k) ++ [(nJ bv (jU bv t k) (t.getD k tz))])).length)), (vb false)]), (21, some (xD kC (List.map uD ((jU bv t k) ++ [(nJ bv (jU bv t k) (t.getD k tz))]))))]) (M := 1000000) [2, 3, 5, 6, 7, 8, 9, 10, 11, 12, 13, 14, 15, 16, 17, 18, 19, 20, 21] [2] (e_step (t.getD k tz) bv hbx (jU bv t k) (hr.st k (show k < t.length by omega))) (.cons (by exact rfl) (by kernel_rfl) (.cons (by exact rfl) (nD _ _) .nil)) (.cons (by exact rfl) (by kernel_rfl) (.cons (by exact rfl) (nD _ _) .nil)) (by repeat first | exact .nil | refine .hid rfl ?_ | refine .map rfl ?_ | refine .dat rfl ?_ | refine .none rfl ?_ | refine .cells rfl rfl ?_) <| zF) ?_
   refine qE (wk (l := [(1, (vl 61 8 jO (List.map uF bv))), (8, (.ref 0 0)), (13, (.ref 2 0)), (52, (vl 83 7 uW t)), (53, (jW t.length)), (54, (jW k))]) (b := [(0, some y2), (2, some [(jW bv.length), (jW 1), (vi (-1)), (.own 21 95 10 ((List.map uD ((jU bv t k) ++ [(nJ bv (jU bv t k) (t.getD k tz))])).length)), (vb false)]), (21, some (xD kC (List.map uD ((jU bv t k) ++ [(nJ bv (jU bv t k) (t.getD k tz))]))))])) ?_
   refine qE (sim_ren2 (S' := [(1, (vl 61 8 jO (List.map uF bv))), (8, (.ref 0 0)), (13, (.ref 2 0)), (52, (vl 83 7 uW t)), (53, (jW t.length)), (54, (jW k))]) (B' := [(0, some y2), (2, some [(jW bv.length), (jW 1), (vi (-1)), (.own 3 95 10 ((List.map uD ((jU bv t k) ++ [(nJ bv (jU bv t k) (t.getD k tz))])).length)), (vb false)]), (3, some (xD kC (List.map uD ((jU bv t k) ++ [(nJ bv (jU bv t k) (t.getD k tz))]))))]) 3 21 2) ?_
   refine jB <| kx [(65, (vb false))] [] (zM <| zE oNc <| zE (qH fo161_4) <| zR (qP aG) <| zZ) ?_
   refine qA ?_
   refine jF <| kx [(54, (jW (k + 1)))] [] (zE (vU (k + 1)) <| zM <| zZ) ?_
   exact ⟨k + 1, wk, (by omega), (by first | omega | (dsimp only; omega))⟩
  ·replace h2 := of_decide_eq_false h2
   refine kL <| jB <| kd [(9, (jW 0))] [(0, some (bx (kC ((List.map uD (jU bv t k)).getD ((List.map uD (jU bv t k)).length - 1) (cQ.mk y3 [] [])))))] mo (wM <| wE oNc <| wE (qH eE) <| wR (qP sh143) <| wM <| wE oNc <| wE (qH eE) <| wR (qP sh143) <| wE (oLo el143) <| wE (oSb ((List.map uD (jU bv t k)).length - 1)) <| wE (oXO el143 ((List.map uD (jU bv t k)).length - 1)) <| wR (oLA sh95 ((List.map uD (jU bv t k)).length - 1) (cQ.mk y3 [] [])) <| wT (qC sh95) <| wM <| wZ) ?_
   refine jG ⟨_, (kU (cs := (bx (kC ((List.map uD (jU bv t k)).getD ((List.map uD (jU bv t k)).length - 1) (cQ.mk (kG.mk (jE.mk (jD.mk false []) (jD.mk false [])) (jE.mk (jD.mk false []) (jD.mk false []))) [] []))))) (d := (kC ((List.map uD (jU bv t k)).getD ((List.map uD (jU bv t k)).length - 1) (cQ.mk (kG.mk (jE.mk (jD.mk false []) (jD.mk false [])) (jE.mk (jD.mk false []) (jD.mk false []))) [] [])))) rfl rfl sh95 rfl rfl (.tmp (d := (.val (.int .i64 (((0 : Nat) : Int))))) rfl .nil)), ?_⟩
   obtain rfl : k = t.length := by omega
   rw [List.length_map, hju, map_getD uD _ jz _ (by omega)]
   unfold gO; rfl
end Go.Proofs.YtnajallgoaiahaaGreatDoor
namespace Go.Proofs.YtnajallgoaiahaaGreatDoor
open Go.Fid
set_option maxRecDepth 4000
set_option linter.unusedVariables false
set_option linter.unusedSimpArgs false
theorem cb13 : callB Tryz.prog 13 = true := by kernel_rfl
theorem cb68 : callB Tryz.prog 68 = true := by kernel_rfl
theorem cb71 : callB Tryz.prog 71 = true := by kernel_rfl
theorem cb74 : callB Tryz.prog 74 = true := by kernel_rfl
theorem p_pts (xs : List Rat) (hx : ∀ q ∈ xs, QL q 1048576) (hxb : xs.length ≤ 1000000) : jV Tryz.prog 68 [(.sl 45 4 (List.map jK (List.map jT xs)))] (.sl 61 8 (List.map jO (List.map uF (List.map cZ xs)))) := by
 refine jJ Tryz.func68 rfl cb68 rfl ?_
 show qI _ _ _ _ ⟨[(0, (vl 45 4 jK (List.map jT xs)))], []⟩
 refine jB <| kx [] [] (zE (fH 61 8) <| zZ) ?_
 refine jB <| kx [(3, (.own 0 61 8 0))] [(0, some (xD jO []))] (zO 0 61 8 <| zZ) ?_
 refine jB <| jB <| kx [(6, (vl 45 4 jK (List.map jT xs))), (7, (jW xs.length)), (8, (jW 0))] [] (zM <| zE (oLn uN xs.length) <| zM <| zZ) ?_
 refine jI <| kN (α := Nat × List kG) (fun (i, o) => ⟨[(3, (.own 0 61 8 o.length)), (6, (vl 45 4 jK (List.map jT xs))), (7, (jW xs.length)), (8, (jW i))], [(0, some (xD jO o))]⟩) (fun (i, o) => i ≤ xs.length ∧ o = (xs.take i).map (fun q => uF (cZ q))) (fun (i, o) => xs.length - i) (0, []) wk ⟨Nat.zero_le _, by simp⟩ ?_
 rintro ⟨i, o⟩ ⟨hi, ho⟩
 have hol : o.length = i := by rw [ho, List.length_map, List.length_take]; omega
 refine jB <| kx [(9, (vb (decide (((i : Nat) : Int) < ((xs.length : Nat) : Int)))))] [] (zE xK <| zZ) ?_
 refine jB <| jH rfl (fun h1 => ?_) (fun h1 => ?_)
 ·replace h1 := of_decide_eq_true h1
  refine jF <| jB <| jI <| jB <| kx [(5, (.ref 1 0))] [(1, some (bx (jK (jT (xs.getD i 0)))))] (zE (oXm uN jT i 0) <| zE (dK jR) <| zH (qS 1 qX uA) <| zT (qC jR) <| zZ) ?_
  refine kf [(3, (.own 0 61 8 ((o ++ [(kG.mk (jT (xs.getD i 0)) (jT (xs.getD i 0)))]).length)))] [(0, some (xD jO (o ++ [(kG.mk (jT (xs.getD i 0)) (jT (xs.getD i 0)))])))] (zM <| zR (kR jR) <| zR (kR jR) <| zE (eJ pl61 uO uY) <| zE (eI eA uO uY) <| zAS jO o [(kG.mk (jT (xs.getD i 0)) (jT (xs.getD i 0)))] rfl eA uO by61 <| zM <| zF) ?_
  refine kx [(8, (jW (i + 1)))] [] (zE (vU (i + 1)) <| zM <| zZ) ?_
  exact ⟨(i + 1, o ++ [uF (cZ (xs.getD i 0))]), wk, ⟨by omega, by rw [ho]; exact fF (f := fun q => uF (cZ q)) (by omega)⟩, (by first | omega | (dsimp only; omega))⟩
 ·replace h1 := of_decide_eq_false h1
  refine kL <| jB <| kx [(2, (.own 0 61 8 o.length))] [] (zM <| zM <| zZ) ?_
  refine qE (vZ (t := 2) (k := 0) (es := List.map jO o) rfl rfl (mA _ _ (fun _ => rfl)) (vC _ _ rfl) (cB jO o (fun _ => rfl) rfl)) ?_
  refine jG ⟨_, (.tmp (d := (.sl 61 8 (List.map jO o))) rfl .nil), ?_⟩
  rw [ho, show i = xs.length by omega, List.take_length, show List.map (fun q => uF (cZ q)) xs = List.map uF (List.map cZ xs) from (by rw [List.map_map]; rfl)]; rfl
theorem p_val (bv : List R2) (hbx : ∀ x ∈ bv, GL 1048576 x) (hbl : bv.length ≤ 1000000) : jV Tryz.prog 71 [(.sl 61 8 (List.map jO (List.map uF bv)))] (.val (.bool (true))) := by
 refine jJ Tryz.func71 rfl cb71 rfl ?_
 show qI _ _ _ _ ⟨[(0, (vl 61 8 jO (List.map uF bv)))], []⟩
 refine jB <| kx [] [] (zM <| zZ) ?_
 refine jB <| jB <| kx [(5, (vl 61 8 jO (List.map uF bv))), (6, (jW bv.length)), (7, (jW 0))] [] (zM <| zE (oLn eA bv.length) <| zM <| zZ) ?_
 refine jI <| kN (α := Nat) (fun i => ⟨[(5, (vl 61 8 jO (List.map uF bv))), (6, (jW bv.length)), (7, (jW i))], []⟩) (fun i => i ≤ bv.length) (fun i => bv.length - i) 0 wk (Nat.zero_le _) ?_
 rintro i hi
 refine jB <| kx [(8, (vb (decide (((i : Nat) : Int) < ((bv.length : Nat) : Int)))))] [] (zE xK <| zZ) ?_
 refine jB <| jH rfl (fun h1 => ?_) (fun h1 => ?_)
 ·replace h1 := of_decide_eq_true h1
  refine jF <| jB <| jI <| jB <| kx [(4, (.ref 0 0))] [(0, some (bx (jO (uF (bv.getD i z2)))))] (zE (oXm eA uF i z2) <| zE (dK kZ) <| zN (qS 0 uO uY) <| zT (qC kZ) <| zZ) ?_
  refine jB <| kx [(13, (vb false))] [] (zR (kR kZ) <| zE (jX (by have h := i_valid (uF (bv.getD i z2)) (yE (⟨qQ (jP (kA (eG hbx (by decide) i).1) (by decide : 1048576 ≤ 1048576)), qQ (jP (kA (eG hbx (by decide) i).2.1) (by decide : 1048576 ≤ 1048576))⟩) (by decide)); rw [show xN (uF (bv.getD i z2)) = true from nB (eG hbx (by decide) i).2.2] at h; exact h)) <| zE mM <| zZ) ?_
  refine qA ?_
  refine jF <| kx [(7, (jW (i + 1)))] [] (zE (vU (i + 1)) <| zM <| zZ) ?_
  exact ⟨i + 1, wk, (by omega), (by first | omega | (dsimp only; omega))⟩
 ·replace h1 := of_decide_eq_false h1
  refine kL <| jB <| kx [(2, (vb true))] [] (zM <| zZ) ?_
  refine jG ⟨_, (.tmp (d := (.val (.bool (true)))) rfl .nil), ?_⟩
  rfl
theorem p_fit (m : List (List jE)) (hm : vR 1048576 m) (n : Nat) (hr : mF m m.length (m.getD 0 []).length) : jV Tryz.prog 74 [(.sl 24 1 (List.map jL m)), (.val (.int .i64 (((n : Nat) : Int))))] (.val (.int .i64 ((((gJ m n) : Nat) : Int)))) := by
 have hmb := hr.r64
 have hm1 := hr.r1
 have hm0 := hr.c64
 let y1 := (jE.mk (jD.mk false []) (jD.mk false []))
 refine jJ Tryz.func74 rfl cb74 rfl ?_
 show qI _ _ _ _ ⟨[(0, (vl 24 1 jL m)), (1, (jW n))], []⟩
 refine jB <| kx [] [] (zM <| zZ) ?_
 refine jB <| jB <| kx [(18, (vb ((((m.length : Nat) : Int) != ((n : Nat) : Int)) || ((((m.getD 0 []).length : Nat) : Int) != ((n : Nat) : Int)))))] [] ?_ ?_
 ·refine zM <| zE (vG vJ) <| zM <| zE cS <| zE (oV (vb (((m.length : Nat) : Int) != ((n : Nat) : Int))) (kY (by kernel_rfl))) <| ?_
  rcases hb1 : (((m.length : Nat) : Int) != ((n : Nat) : Int)) with _ | _
  ·replace hb1 := bne_eq_false_iff_eq.1 hb1
   exact zM <| zE (xM vJ 0 ([] : List (jE))) <| zE (xZ gP) <| zE (vG uN (L := (m.getD 0 []))) <| zM <| zE cS <| zE cU <| zZ
  ·replace hb1 := bne_iff_ne.1 hb1
   exact zK <| zK <| zK <| zK <| zK <| zK <| zE vY <| zZ
 refine jH rfl (fun h2 => ?_) (fun h2 => ?_)
 ·refine jB <| kx [(4, (jW 4))] [] (zM <| zZ) ?_
  refine jG ⟨_, (.tmp (d := (.val (.int .i64 (4)))) rfl .nil), ?_⟩
  rw [fit_1 h2]; rfl
 ·have hs := fit_0 h2
  refine jF <| jB <| jB <| kx [(20, (jW m.length)), (21, (jW 0))] [] (zM <| zE (vG vJ) <| zM <| zZ) ?_
  refine jI <| kN (α := Nat) (fun i => ⟨[(0, (vl 24 1 jL m)), (20, (jW m.length)), (21, (jW i))], []⟩) (fun i => i ≤ m.length ∧ symI m i) (fun i => m.length - i) 0 wk ⟨Nat.zero_le _, symI_0 m⟩ ?_
  rintro i ⟨hi, hsy⟩
  refine jB <| kx [(22, (vb (decide (((i : Nat) : Int) < ((m.length : Nat) : Int)))))] [] (zE xK <| zZ) ?_
  refine jB <| jH rfl (fun h3 => ?_) (fun h3 => ?_)
  ·replace h3 := of_decide_eq_true h3
   have hri := (hr.at (show i < m.length by omega)).1
   refine jF <| jB <| jI <| jB <| kx [(5, (jW i))] [] (zM <| zM <| zZ) ?_
   refine jB <| kx [(24, (jW i)), (25, (jW 0))] [] (zM <| zM <| zZ) ?_
   refine jI <| kN (α := Nat) (fun j => ⟨[(0, (vl 24 1 jL m)), (5, (jW i)), (20, (jW m.length)), (21, (jW i)), (24, (jW i)), (25, (jW j))], []⟩) (fun j => j ≤ i ∧ ∀ b, b < j → eqM m i b = true) (fun j => i - j) 0 wk ⟨Nat.zero_le _, fun b hb => by omega⟩ ?_
   rintro j ⟨hj, he⟩
   refine jB <| kx [(26, (vb (decide (((j : Nat) : Int) < ((i : Nat) : Int)))))] [] (zE xK <| zZ) ?_
   refine jB <| jH rfl (fun h4 => ?_) (fun h4 => ?_)
   ·replace h4 := of_decide_eq_true h4
    have hrj := (hr.at (show j < m.length by omega)).1
    refine jF <| jB <| jI <| jB <| kx [(6, (jW j))] [] (zM <| zM <| zZ) ?_
    refine jB <| kd [(43, (vb ((xC (jN ((m.getD i []).getD j y1)) (jN ((m.getD j []).getD i y1))) != 0)))] [] mo (wM <| wM <| wE (xM vJ i ([] : List (jE))) <| wE (xZ gP) <| wM <| wE (xM uN j y1 (L := (m.getD i []))) <| wE (dK jR) <| wM <| wM <| wE (xM vJ j ([] : List (jE))) <| wE (xZ gP) <| wM <| wE (xM uN i y1 (L := (m.getD j []))) <| wE (dK jR) <| wE (jX (mG ((m.getD i []).getD j y1) ((m.getD j []).getD i y1) (jN ((m.getD i []).getD j y1)) (jN ((m.getD j []).getD i y1)) (jP (qN (kO (d := []) hm (show i < m.length by omega)).1 (show j < (m.getD i []).length by omega)) (by decide)) (jP (qN (kO (d := []) hm (show j < m.length by omega)).1 (show i < (m.getD j []).length by omega)) (by decide)))) <| wE cS <| wZ) ?_
    refine jH rfl (fun h5 => ?_) (fun h5 => ?_)
    ·replace h5 := bne_iff_ne.1 h5
     refine jB <| kx [(4, (jW 11))] [] (zM <| zZ) ?_
     refine jG ⟨_, (.tmp (d := (.val (.int .i64 (11)))) rfl .nil), ?_⟩
     rw [fit_11 hs (sym_no (i := i) (j := j) (by omega) (by omega) (eqm_f h5))]; rfl
    ·replace h5 := bne_eq_false_iff_eq.1 h5
     refine jF <| kx [(25, (jW (j + 1)))] [] (zE (vU (j + 1)) <| zM <| zZ) ?_
     exact ⟨j + 1, wk, ⟨by omega, eqm_s he h5⟩, (by first | omega | (dsimp only; omega))⟩
   ·replace h4 := of_decide_eq_false h4
    have hsy2 := symI_s hsy (fun b hb => he b (by omega))
    refine kL <| kx [(21, (jW (i + 1)))] [] (zE (vU (i + 1)) <| zM <| zZ) ?_
    exact ⟨i + 1, wk, ⟨by omega, hsy2⟩, (by first | omega | (dsimp only; omega))⟩
  ·replace h3 := of_decide_eq_false h3
   refine kL <| jB <| kx [(4, (jW 0))] [] (zM <| zZ) ?_
   refine jG ⟨_, (.tmp (d := (.val (.int .i64 (0)))) rfl .nil), ?_⟩
   obtain rfl : i = m.length := by omega
   rw [fit_ok hs (sym_yes hsy)]; rfl
theorem p_grd (t : List vT) (ht : TnsOk 1048576 t) (xs : List Rat) (hx : ∀ q ∈ xs, QL q 1048576) (hr : JRunP (List.map cZ xs) t) (hxb : xs.length ≤ 1000000) : jV Tryz.prog 13 [(.sl 83 7 (List.map uW t)), (.sl 45 4 (List.map jK (List.map jT xs)))] (.tup [(.sl 45 4 (List.map jK (yX xs t))), (.val (.int .i64 (((0 : Nat) : Int))))]) := by
 have hgl : (gO (List.map cZ xs) t).g.length = xs.length := by rw [hr.run.last.2.2, List.length_map]
 refine jJ Tryz.func13 rfl cb13 rfl ?_
 show qI _ _ _ _ ⟨[(0, (vl 83 7 uW t)), (1, (vl 45 4 jK (List.map jT xs)))], []⟩
 refine jB <| kx [] [] (zE (fH 45 4) <| zM <| zZ) ?_
 refine jB <| kx [(6, (.ref 0 0)), (7, (jW 0))] [(0, some (bx (kC (uD (gO (List.map cZ xs) t)))))] (zM <| zM <| zE (jX (p_pts xs hx hxb)) <| zE (jX (j_jets t ht (List.map cZ xs) (pts_gl hx) hr)) <| zM <| zE uZ <| zE uZ <| zN (qS 0 ze95 zo95) <| zT (qC sh95) <| zM <| zZ) ?_
 refine jB <| jB <| kx [(19, (vb false))] [] (zM <| zE (xI false cS) <| zZ) ?_
 refine qA ?_
 refine jF <| jB <| kx [(8, (.own 1 45 4 0))] [(1, some (xD jK []))] (zO 1 45 4 <| zZ) ?_
 refine jB <| jB <| kx [(22, (vl 61 8 jO (List.map uF ((gO (List.map cZ xs) t).g)))), (23, (jW (((gO (List.map cZ xs) t).g).length))), (24, (jW 0))] [] (zE (qH fo95_1) <| zR (oQr (.sl 61 8 (List.map jO (List.map uF ((gO (List.map cZ xs) t).g)))) (.sl 61 8 (List.map jO (List.map uF ((gO (List.map cZ xs) t).g)))) (qP sh86) (by exact rfl)) <| zE (oLn eA (((gO (List.map cZ xs) t).g).length)) <| zM <| zZ) ?_
 refine jI <| kN (α := Nat × List jE) (fun (i, o) => ⟨[(8, (.own 1 45 4 o.length)), (22, (vl 61 8 jO (List.map uF ((gO (List.map cZ xs) t).g)))), (23, (jW (((gO (List.map cZ xs) t).g).length))), (24, (jW i))], [(1, some (xD jK o))]⟩) (fun (i, o) => i ≤ (gO (List.map cZ xs) t).g.length ∧ o = ((gO (List.map cZ xs) t).g.take i).map (fun y => jT y.1)) (fun (i, o) => (gO (List.map cZ xs) t).g.length - i) (0, []) wk ⟨Nat.zero_le _, by simp⟩ ?_
 rintro ⟨i, o⟩ ⟨hi, ho⟩
 have hol : o.length = i := by rw [ho, List.length_map, List.length_take]; omega
 refine jB <| kx [(25, (vb (decide (((i : Nat) : Int) < ((((gO (List.map cZ xs) t).g).length : Nat) : Int)))))] [] (zE xK <| zZ) ?_
 refine jB <| jH rfl (fun h1 => ?_) (fun h1 => ?_)
 ·replace h1 := of_decide_eq_true h1
  refine jF <| jB <| jI <| jB <| kx [(10, (.ref 2 0))] [(2, some (bx (jO (uF (((gO (List.map cZ xs) t).g).getD i z2)))))] (zE (oXm eA uF i z2) <| zE (dK kZ) <| zH (qS 2 uO uY) <| zT (qC kZ) <| zZ) ?_
  refine kf [(8, (.own 1 45 4 ((o ++ [(jT ((((gO (List.map cZ xs) t).g).getD i z2).1))]).length)))] [(1, some (xD jK (o ++ [(jT ((((gO (List.map cZ xs) t).g).getD i z2).1))])))] (zM <| zE (qH xL) <| zR (kR jR) <| zE (eI uN qX uA) <| zAS jK o [(jT ((((gO (List.map cZ xs) t).g).getD i z2).1))] rfl uN qX by45 <| zM <| zF) ?_
  refine kx [(24, (jW (i + 1)))] [] (zE (vU (i + 1)) <| zM <| zZ) ?_
  exact ⟨(i + 1, o ++ [jT ((gO (List.map cZ xs) t).g.getD i z2).1]), wk, ⟨by omega, by rw [ho]; exact gr_step (by omega)⟩, (by first | omega | (dsimp only; omega))⟩
 ·replace h1 := of_decide_eq_false h1
  refine kL <| jB <| kx [(4, (.own 1 45 4 o.length)), (5, (jW 0))] [] (zM <| zM <| zM <| zZ) ?_
  refine qE (vZ (t := 4) (k := 1) (es := List.map jK o) rfl rfl (mA _ _ (fun _ => rfl)) (vC _ _ rfl) (cB jK o (fun _ => rfl) rfl)) ?_
  refine jG ⟨_, (.tmp (d := (.sl 45 4 (List.map jK o))) rfl (.tmp (d := (.val (.int .i64 (((0 : Nat) : Int))))) rfl .nil)), ?_⟩
  rw [ho, show i = (gO (List.map cZ xs) t).g.length by omega, List.take_length]; rfl
end Go.Proofs.YtnajallgoaiahaaGreatDoor
