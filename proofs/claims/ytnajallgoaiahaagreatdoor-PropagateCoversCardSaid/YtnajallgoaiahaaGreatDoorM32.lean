/- Part 32 of a proof: rules, plain facts, and functions walked. -/
import Derived.Test.YtnajallgoaiahaaGreatDoorM31
namespace Go.Proofs.YtnajallgoaiahaaGreatDoor
open Go.Fid
set_option maxRecDepth 4000
set_option linter.unusedVariables false
set_option linter.unusedSimpArgs false
theorem by3 : yM Tryz.prog 3 = some 8 := by kernel_rfl
theorem cb130 : callB Tryz.prog 130 = true := by kernel_rfl
theorem el23 : vI Tryz.prog 23 = some (83, 7) := by kernel_rfl
theorem mL : vI Tryz.prog 102 = some (3, 1) := by kernel_rfl
theorem sh83 : qU Tryz.prog 83 = some (true, 7) := by kernel_rfl
theorem ze83 : xW Tryz.prog 83 = some [.int .i64 0, .int .i64 0, .int .i64 0, .bool false, .slice none 0 0, .bool false, .slice none 0 0] := by kernel_rfl
theorem zo83 : fH [.int .i64 0, .int .i64 0, .int .i64 0, .bool false, .slice none 0 0, .bool false, .slice none 0 0] [.val (.int .i64 0), .val (.int .i64 0), .val (.int .i64 0), .val (.bool false), .sl 140 1 [], .val (.bool false), .sl 140 1 []] := by simp [fH, Value.oneCell']
theorem j_sizes (t : List vB) (ht : TnsOk 1048576 t) (z : Int) : jW Tryz.prog 130 [(.sl 83 7 (List.map qP t)), (.val (.int .i64 (z)))] (.tup [(.sl 3 1 (List.map uQ (tmL z t))), (.val (.int .i64 ((((tmC z t) : Nat) : Int))))]) := by
 refine jM Tryz.func130 rfl cb130 rfl ?_
 show qJ _ _ _ _ ⟨[(0, (vl 83 7 qP t)), (1, (vi z))], []⟩
 refine jB <| kx [] [] (zE (aK 3 1) <| zM <| zZ) ?_
 refine jB <| jB <| kx [(15, (vb (decide (z < 0) || decide (64 < z))))] [] ?_ ?_
 ·refine zM <| zE vW <| zE (oV (vb (decide (z < 0))) (uA (by kernel_rfl))) <| ?_
  rcases hb1 : (decide (z < 0)) with _ | _
  ·replace hb1 := of_decide_eq_false hb1
   exact zM <| zE yN <| zE oPo <| zZ
  ·replace hb1 := of_decide_eq_true hb1
   exact zK <| zK <| zE cR <| zZ
 refine jK (b := (decide (z < 0) || decide (64 < z))) rfl (fun h2 => ?_) (fun h2 => ?_)
 ·refine jB <| kx [(4, (vl 3 1 uQ [])), (5, (jN 2))] [] (zE (aK 3 1) <| zM <| zZ) ?_
  refine jH ⟨_, (.tmp (d := (.sl 3 1 (List.map uQ []))) rfl (.tmp (d := (.val (.int .i64 (2)))) rfl .nil)), ?_⟩
  have he := zb_t (t := t) h2
  rw [he.1, he.2]; rfl
 ·have hz0 := h2
  refine jF <| jB <| jB <| kx [(18, (vb (((t.length : Nat) : Int) == 0)))] [] (zM <| zE (zB el23) <| zE gJ <| zZ) ?_
  refine jK (b := (((t.length : Nat) : Int) == 0)) rfl (fun h3 => ?_) (fun h3 => ?_)
  ·replace h3 := eq_of_beq h3
   refine jB <| kx [(4, (vl 3 1 uQ [])), (5, (jN 1))] [] (zE (aK 3 1) <| zM <| zZ) ?_
   refine jH ⟨_, (.tmp (d := (.sl 3 1 (List.map uQ []))) rfl (.tmp (d := (.val (.int .i64 (1)))) rfl .nil)), ?_⟩
   have he := tm_l0 hz0 (show t.length = 0 by omega)
   rw [he.1, he.2]; rfl
  ·replace h3 := ne_of_beq_false h3
   have h0 := h3
   refine jF <| jB <| jB <| kx [(21, (vb (decide (400 < ((t.length : Nat) : Int)))))] [] (zM <| zE (zB el23) <| zE yN <| zZ) ?_
   refine jK (b := decide (400 < ((t.length : Nat) : Int))) rfl (fun h4 => ?_) (fun h4 => ?_)
   ·replace h4 := of_decide_eq_true h4
    refine jB <| kx [(4, (vl 3 1 uQ [])), (5, (jN 3))] [] (zE (aK 3 1) <| zM <| zZ) ?_
    refine jH ⟨_, (.tmp (d := (.sl 3 1 (List.map uQ []))) rfl (.tmp (d := (.val (.int .i64 (3)))) rfl .nil)), ?_⟩
    have he := tm_lb hz0 (show 400 < t.length by omega)
    rw [he.1, he.2]; rfl
   ·replace h4 := of_decide_eq_false h4
    have h400 := h4
    refine jF <| jB <| kx [(6, (.own 0 3 1 t.length))] [(0, some (bm uQ (List.replicate t.length 0)))] (zM <| zE (zB el23) <| zN (oMk 0 uQ (0 : Int) t.length t.length mL ze3 zo3 by3) <| zM <| zZ) ?_
    refine jB <| jB <| kx [(25, (vl 83 7 qP t)), (26, (jN t.length)), (27, (jN 0))] [] (zM <| zE (zB el23) <| zM <| zZ) ?_
    refine jI <| kU (α := Nat × List Int) (fun (k, o) => ⟨[(1, (vi z)), (6, (.own 0 3 1 t.length)), (25, (vl 83 7 qP t)), (26, (jN t.length)), (27, (jN k))], [(0, some (bm uQ o))]⟩) (fun (k, o) => k ≤ t.length ∧ szI t k o ∧ szUp z t k) (fun (k, o) => t.length - k) (0, List.replicate t.length 0) wk ⟨Nat.zero_le _, szI_0, szUp_0 _ _⟩ ?_
    rintro ⟨k, o⟩ ⟨hk, ho, hu⟩
    have uF := ho.1
    refine jB <| kx [(28, (vb (decide (((k : Nat) : Int) < ((t.length : Nat) : Int)))))] [] (zE vW <| zZ) ?_
    refine jB <| jK rfl (fun h5 => ?_) (fun h5 => ?_)
    ·replace h5 := of_decide_eq_true h5
     have hR := tmr hz0 h5 h400 hu
     have hkl := hR.kl
     refine jF <| jB <| jI <| jB <| kx [(7, (jN k)), (8, (.ref 1 0))] [(1, some (bx (qP (t.getD k tz))))] (zM <| zE (hZ el23 k (tz : vB)) <| zE (gH sh83) <| zH (qS 1 ze83 zo83) <| zM <| zT (qF sh83) <| zZ) ?_
     refine jB <| kx [(9, (vi (cH ((t.getD k tz).op))))] [] (zE (qC xS) <| zR (uC dC) <| zE (kG (aO ((t.getD k tz).op))) <| zM <| zZ) ?_
     refine jB <| jB <| kx [(72, (vb (((decide ((cH ((t.getD k tz).op)) < 0) || (decide ((cH ((t.getD k tz).op)) < 2) && ((t.getD k tz).b != 0))) || (((t.getD k tz).op == 0) && (((t.getD k tz).a != 0) || !(jX ((t.getD k tz).n))))) || (((t.getD k tz).op != 0) && !(unsB ((t.getD k tz).n))))))] [] ?_ ?_
     ·refine zM <| zE vW <| zE (oV (vb (decide ((cH ((t.getD k tz).op)) < 0))) (uA (by kernel_rfl))) <| ?_
      rcases hb6 : (decide ((cH ((t.getD k tz).op)) < 0)) with _ | _
      ·replace hb6 := of_decide_eq_false hb6
       refine zM <| zE vW <| zE (oV (vb (decide ((cH ((t.getD k tz).op)) < 2))) (uA (by kernel_rfl))) <| ?_
       rcases hb7 : (decide ((cH ((t.getD k tz).op)) < 2)) with _ | _
       ·replace hb7 := of_decide_eq_false hb7
        refine zK <| zK <| zK <| zE nA <| zE nA <| zM <| zE (qC xS) <| zR (uC dC) <| zE gJ <| zE (oV (vb ((t.getD k tz).op == 0)) (uA (by kernel_rfl))) <| ?_
        rcases hb8 : ((t.getD k tz).op == 0) with _ | _
        ·replace hb8 := ne_of_beq_false hb8
         refine zK <| zK <| zK <| zK <| zK <| zK <| zK <| zK <| zK <| zE nA <| zE nA <| zM <| zE (qC xS) <| zR (uC dC) <| zE oNe <| zE (oV (vb ((t.getD k tz).op != 0)) (uA (by kernel_rfl))) <| ?_
         rcases hb9 : ((t.getD k tz).op != 0) with _ | _
         ·replace hb9 := bne_eq_false_iff_eq.1 hb9
          exact zK <| zK <| zK <| zK <| zE nA <| zE nA <| zZ
         ·replace hb9 := bne_iff_ne.1 hb9
          exact zE (qC fo83_3) <| zR (kK jO) <| zE (kG (j_unset ((t.getD k tz).n) (kH (t.getD k tz).n) (tn_get ht (show k < t.length by omega)))) <| zE cE <| zE oPa <| zE oPo <| zZ
        ·replace hb8 := eq_of_beq hb8
         refine zE (qC hH) <| zR (uC nF) <| zE oNe <| zE (oV (vb ((t.getD k tz).a != 0)) (uA (by kernel_rfl))) <| ?_
         rcases hb10 : ((t.getD k tz).a != 0) with _ | _
         ·replace hb10 := bne_eq_false_iff_eq.1 hb10
          refine zE (qC fo83_3) <| zR (kK jO) <| zE (kG (xU ((t.getD k tz).n) (kH (t.getD k tz).n) (jR (tn_get ht (show k < t.length by omega)) (by decide)))) <| zE cE <| zE oPo <| zE oPa <| zE oPo <| zE (oV (vb (false || (true && (false || !(jX ((t.getD k tz).n)))))) (uA (by kernel_rfl))) <| ?_
          rcases hb11 : (!(jX ((t.getD k tz).n))) with _ | _
          ·refine zE (qC xS) <| zR (uC dC) <| zE oNe <| zE (oV (vb ((t.getD k tz).op != 0)) (uA (by kernel_rfl))) <| ?_
           rcases hb12 : ((t.getD k tz).op != 0) with _ | _
           ·replace hb12 := bne_eq_false_iff_eq.1 hb12
            exact zK <| zK <| zK <| zK <| zE nA <| zE nA <| zZ
           ·replace hb12 := bne_iff_ne.1 hb12
            exact zE (qC fo83_3) <| zR (kK jO) <| zE (kG (j_unset ((t.getD k tz).n) (kH (t.getD k tz).n) (tn_get ht (show k < t.length by omega)))) <| zE cE <| zE oPa <| zE oPo <| zZ
          ·exact zK <| zK <| zK <| zK <| zK <| zK <| zK <| zK <| zK <| zE cR <| zZ
         ·replace hb10 := bne_iff_ne.1 hb10
          exact zK <| zK <| zK <| zK <| zE cR <| zE cR <| zE nA <| zM <| zK <| zK <| zK <| zK <| zK <| zK <| zK <| zK <| zK <| zE cR <| zZ
       ·replace hb7 := of_decide_eq_true hb7
        refine zE (qC eZ) <| zR (uC nF) <| zE oNe <| zE oPa <| zE oPo <| zE (oV (vb (false || (true && ((t.getD k tz).b != 0)))) (uA (by kernel_rfl))) <| ?_
        rcases hb13 : ((t.getD k tz).b != 0) with _ | _
        ·replace hb13 := bne_eq_false_iff_eq.1 hb13
         refine zE (qC xS) <| zR (uC dC) <| zE gJ <| zE (oV (vb ((t.getD k tz).op == 0)) (uA (by kernel_rfl))) <| ?_
         rcases hb14 : ((t.getD k tz).op == 0) with _ | _
         ·replace hb14 := ne_of_beq_false hb14
          refine zK <| zK <| zK <| zK <| zK <| zK <| zK <| zK <| zK <| zE nA <| zE nA <| zM <| zE (qC xS) <| zR (uC dC) <| zE oNe <| zE (oV (vb ((t.getD k tz).op != 0)) (uA (by kernel_rfl))) <| ?_
          rcases hb15 : ((t.getD k tz).op != 0) with _ | _
          ·replace hb15 := bne_eq_false_iff_eq.1 hb15
           exact zK <| zK <| zK <| zK <| zE nA <| zE nA <| zZ
          ·replace hb15 := bne_iff_ne.1 hb15
           exact zE (qC fo83_3) <| zR (kK jO) <| zE (kG (j_unset ((t.getD k tz).n) (kH (t.getD k tz).n) (tn_get ht (show k < t.length by omega)))) <| zE cE <| zE oPa <| zE oPo <| zZ
         ·replace hb14 := eq_of_beq hb14
          refine zE (qC hH) <| zR (uC nF) <| zE oNe <| zE (oV (vb ((t.getD k tz).a != 0)) (uA (by kernel_rfl))) <| ?_
          rcases hb16 : ((t.getD k tz).a != 0) with _ | _
          ·replace hb16 := bne_eq_false_iff_eq.1 hb16
           refine zE (qC fo83_3) <| zR (kK jO) <| zE (kG (xU ((t.getD k tz).n) (kH (t.getD k tz).n) (jR (tn_get ht (show k < t.length by omega)) (by decide)))) <| zE cE <| zE oPo <| zE oPa <| zE oPo <| zE (oV (vb (false || (true && (false || !(jX ((t.getD k tz).n)))))) (uA (by kernel_rfl))) <| ?_
           rcases hb17 : (!(jX ((t.getD k tz).n))) with _ | _
           ·refine zE (qC xS) <| zR (uC dC) <| zE oNe <| zE (oV (vb ((t.getD k tz).op != 0)) (uA (by kernel_rfl))) <| ?_
            rcases hb18 : ((t.getD k tz).op != 0) with _ | _
            ·replace hb18 := bne_eq_false_iff_eq.1 hb18
             exact zK <| zK <| zK <| zK <| zE nA <| zE nA <| zZ
            ·replace hb18 := bne_iff_ne.1 hb18
             exact zE (qC fo83_3) <| zR (kK jO) <| zE (kG (j_unset ((t.getD k tz).n) (kH (t.getD k tz).n) (tn_get ht (show k < t.length by omega)))) <| zE cE <| zE oPa <| zE oPo <| zZ
           ·exact zK <| zK <| zK <| zK <| zK <| zK <| zK <| zK <| zK <| zE cR <| zZ
          ·replace hb16 := bne_iff_ne.1 hb16
           exact zK <| zK <| zK <| zK <| zE cR <| zE cR <| zE nA <| zM <| zK <| zK <| zK <| zK <| zK <| zK <| zK <| zK <| zK <| zE cR <| zZ
        ·replace hb13 := bne_iff_ne.1 hb13
         exact zK <| zK <| zK <| zK <| zK <| zK <| zK <| zK <| zK <| zK <| zK <| zK <| zK <| zK <| zE cR <| zM <| zK <| zK <| zK <| zK <| zK <| zK <| zK <| zK <| zK <| zE cR <| zZ
      ·replace hb6 := of_decide_eq_true hb6
       exact zK <| zK <| zK <| zK <| zK <| zK <| zK <| zE cR <| zM <| zK <| zK <| zK <| zK <| zK <| zK <| zK <| zK <| zK <| zK <| zK <| zK <| zK <| zK <| zE cR <| zM <| zK <| zK <| zK <| zK <| zK <| zK <| zK <| zK <| zK <| zE cR <| zZ
     refine jK rfl (fun h19 => ?_) (fun h19 => ?_)
     ·refine jB <| kx [(4, (vl 3 1 uQ [])), (5, (jN 1))] [] (zE (aK 3 1) <| zM <| zZ) ?_
      refine jH ⟨_, (.tmp (d := (.sl 3 1 (List.map uQ []))) rfl (.tmp (d := (.val (.int .i64 (1)))) rfl .nil)), ?_⟩
      have he := hR.bad h19
      rw [he.1, he.2]; rfl
     ·have hB := h19
      refine jF <| jB <| jB <| kx [(100, (vb ((decide (0 < (cH ((t.getD k tz).op))) && (decide ((t.getD k tz).a < 0) || decide (((k : Nat) : Int) ≤ (t.getD k tz).a))) || (decide (1 < (cH ((t.getD k tz).op))) && (decide ((t.getD k tz).b < 0) || decide (((k : Nat) : Int) ≤ (t.getD k tz).b))))))] [] ?_ ?_
      ·refine zM <| zE yN <| zE (oV (vb (decide (0 < (cH ((t.getD k tz).op))))) (uA (by kernel_rfl))) <| ?_
       rcases hb20 : (decide (0 < (cH ((t.getD k tz).op)))) with _ | _
       ·replace hb20 := of_decide_eq_false hb20
        refine zK <| zK <| zK <| zK <| zK <| zK <| zK <| zK <| zK <| zE nA <| zM <| zM <| zE yN <| zE (oV (vb (decide (1 < (cH ((t.getD k tz).op))))) (uA (by kernel_rfl))) <| ?_
        rcases hb21 : (decide (1 < (cH ((t.getD k tz).op)))) with _ | _
        ·replace hb21 := of_decide_eq_false hb21
         exact zK <| zK <| zK <| zK <| zK <| zK <| zK <| zK <| zK <| zE nA <| zE nA <| zZ
        ·replace hb21 := of_decide_eq_true hb21
         refine zE (qC eZ) <| zR (uC nF) <| zE vW <| zE (oV (vb (decide ((t.getD k tz).b < 0))) (uA (by kernel_rfl))) <| ?_
         rcases hb22 : (decide ((t.getD k tz).b < 0)) with _ | _
         ·replace hb22 := of_decide_eq_false hb22
          exact zE (qC eZ) <| zR (uC nF) <| zM <| zE oGe <| zE oPo <| zE oPa <| zE oPo <| zZ
         ·replace hb22 := of_decide_eq_true hb22
          exact zK <| zK <| zK <| zK <| zE cR <| zE cR <| zE nA <| zZ
       ·replace hb20 := of_decide_eq_true hb20
        refine zE (qC hH) <| zR (uC nF) <| zE vW <| zE (oV (vb (decide ((t.getD k tz).a < 0))) (uA (by kernel_rfl))) <| ?_
        rcases hb23 : (decide ((t.getD k tz).a < 0)) with _ | _
        ·replace hb23 := of_decide_eq_false hb23
         refine zE (qC hH) <| zR (uC nF) <| zM <| zE oGe <| zE oPo <| zE oPa <| zE (oV (vb (true && (false || decide (((k : Nat) : Int) ≤ (t.getD k tz).a)))) (uA (by kernel_rfl))) <| ?_
         rcases hb24 : (false || decide (((k : Nat) : Int) ≤ (t.getD k tz).a)) with _ | _
         ·replace hb24 := of_decide_eq_false (p := (((k : Nat) : Int) ≤ (t.getD k tz).a)) hb24
          refine zM <| zE yN <| zE (oV (vb (decide (1 < (cH ((t.getD k tz).op))))) (uA (by kernel_rfl))) <| ?_
          rcases hb25 : (decide (1 < (cH ((t.getD k tz).op)))) with _ | _
          ·replace hb25 := of_decide_eq_false hb25
           exact zK <| zK <| zK <| zK <| zK <| zK <| zK <| zK <| zK <| zE nA <| zE nA <| zZ
          ·replace hb25 := of_decide_eq_true hb25
           refine zE (qC eZ) <| zR (uC nF) <| zE vW <| zE (oV (vb (decide ((t.getD k tz).b < 0))) (uA (by kernel_rfl))) <| ?_
           rcases hb26 : (decide ((t.getD k tz).b < 0)) with _ | _
           ·replace hb26 := of_decide_eq_false hb26
            exact zE (qC eZ) <| zR (uC nF) <| zM <| zE oGe <| zE oPo <| zE oPa <| zE oPo <| zZ
           ·replace hb26 := of_decide_eq_true hb26
            exact zK <| zK <| zK <| zK <| zE cR <| zE cR <| zE nA <| zZ
         ·replace hb24 := of_decide_eq_true (p := (((k : Nat) : Int) ≤ (t.getD k tz).a)) hb24
          exact zK <| zK <| zK <| zK <| zK <| zK <| zK <| zK <| zK <| zK <| zK <| zK <| zK <| zE cR <| zZ
        ·replace hb23 := of_decide_eq_true hb23
         exact zK <| zK <| zK <| zK <| zE cR <| zE cR <| zM <| zK <| zK <| zK <| zK <| zK <| zK <| zK <| zK <| zK <| zK <| zK <| zK <| zK <| zE cR <| zZ
      refine jK rfl (fun h27 => ?_) (fun h27 => ?_)
      ·refine jB <| kx [(4, (vl 3 1 uQ [])), (5, (jN 5))] [] (zE (aK 3 1) <| zM <| zZ) ?_
       refine jH ⟨_, (.tmp (d := (.sl 3 1 (List.map uQ []))) rfl (.tmp (d := (.val (.int .i64 (5)))) rfl .nil)), ?_⟩
       have he := hR.ord hB h27
       rw [he.1, he.2]; rfl
      ·have hO := h27
       refine jF <| jB <| jB <| kx [(114, (vb (((t.getD k tz).op == 1) && (decide ((t.getD k tz).a < 0) || decide (z ≤ (t.getD k tz).a)))))] [] ?_ ?_
       ·refine zE (qC xS) <| zR (uC dC) <| zE gJ <| zE (oV (vb ((t.getD k tz).op == 1)) (uA (by kernel_rfl))) <| ?_
        rcases hb28 : ((t.getD k tz).op == 1) with _ | _
        ·replace hb28 := ne_of_beq_false hb28
         exact zK <| zK <| zK <| zK <| zK <| zK <| zK <| zK <| zK <| zE nA <| zZ
        ·replace hb28 := eq_of_beq hb28
         refine zE (qC hH) <| zR (uC nF) <| zE vW <| zE (oV (vb (decide ((t.getD k tz).a < 0))) (uA (by kernel_rfl))) <| ?_
         rcases hb29 : (decide ((t.getD k tz).a < 0)) with _ | _
         ·replace hb29 := of_decide_eq_false hb29
          exact zE (qC hH) <| zR (uC nF) <| zM <| zE oGe <| zE oPo <| zE oPa <| zZ
         ·replace hb29 := of_decide_eq_true hb29
          exact zK <| zK <| zK <| zK <| zE cR <| zE cR <| zZ
       refine jK rfl (fun h30 => ?_) (fun h30 => ?_)
       ·refine jB <| kx [(4, (vl 3 1 uQ [])), (5, (jN 2))] [] (zE (aK 3 1) <| zM <| zZ) ?_
        refine jH ⟨_, (.tmp (d := (.sl 3 1 (List.map uQ []))) rfl (.tmp (d := (.val (.int .i64 (2)))) rfl .nil)), ?_⟩
        have he := hR.rng hB hO h30
        rw [he.1, he.2]; rfl
       ·have hN := ndr hR hB hO h30
        refine jF <| jB <| jI <| jB <| kx [(129, (vb ((cH ((t.getD k tz).op)) == 0)))] [] (zM <| zE gJ <| zM <| zZ) ?_
        refine jK (b := ((cH ((t.getD k tz).op)) == 0)) rfl (fun h31 => ?_) (fun h31 => ?_)
        ·replace h31 := eq_of_beq h31
         have hv := szN_c (ss := szU t k) h31
         have hsl : (o.set k ((1 : Int))).length = o.length := List.length_set
         refine kx [] [(0, some (bm uQ (o.set k 1)))] (zM <| zM <| zE (eY mL k) <| zT (oSp nF k (1 : Int)) <| zZ) ?_
         refine jB <| kx [(164, (vb (decide (4096 < ((o.set k 1).getD k 0)))))] [] (zM <| zM <| zE (eY mL k) <| zR (oLp nF k (0 : Int)) <| zE yN <| zZ) ?_
         refine jK (b := decide (4096 < ((o.set k 1).getD k 0))) rfl (fun h32 => ?_) (fun h32 => ?_)
         ·replace h32 := of_decide_eq_true h32
          refine jB <| kx [(4, (vl 3 1 uQ [])), (5, (jN 3))] [] (zE (aK 3 1) <| zM <| zZ) ?_
          refine jH ⟨_, (.tmp (d := (.sl 3 1 (List.map uQ []))) rfl (.tmp (d := (.val (.int .i64 (3)))) rfl .nil)), ?_⟩
          have he := hN.big hv (by omega) h32
          rw [he.1, he.2]; rfl
         ·replace h32 := of_decide_eq_false h32
          refine jF <| kx [(27, (jN (k + 1)))] [] (zE (vJ (k + 1)) <| zM <| zZ) ?_
          exact ⟨(k + 1, o.set k 1), wk, (hN.next hv ho (by omega)), (by first | omega | (dsimp only; omega))⟩
        ·replace h31 := ne_of_beq_false h31
         have hk0 := h31
         obtain ⟨a1, a2, a3, a4, a5⟩ := hN.a ho hk0
         refine jB <| kx [(135, (vb ((t.getD k tz).op == 6)))] [] (zE (qC xS) <| zR (uC dC) <| zE gJ <| zM <| zZ) ?_
         refine jK (b := ((t.getD k tz).op == 6)) rfl (fun h33 => ?_) (fun h33 => ?_)
         ·replace h33 := eq_of_beq h33
          have hv := szN_n hk0 h33 a3
          have hsl : (o.set k ((o.getD (((t.getD k tz).a).toNat) 0))).length = o.length := List.length_set
          refine kx [] [(0, some (bm uQ (o.set k (o.getD (((t.getD k tz).a).toNat) 0))))] (zM <| zM <| zM <| zE (qC hH) <| zR (uC nF) <| zE (eY mL (((t.getD k tz).a).toNat)) <| zR (oLp nF (((t.getD k tz).a).toNat) (0 : Int)) <| zE (eY mL k) <| zT (oSp nF k (o.getD (((t.getD k tz).a).toNat) 0)) <| zZ) ?_
          refine jB <| kx [(164, (vb (decide (4096 < ((o.set k (o.getD (((t.getD k tz).a).toNat) 0)).getD k 0)))))] [] (zM <| zM <| zE (eY mL k) <| zR (oLp nF k (0 : Int)) <| zE yN <| zZ) ?_
          refine jK rfl (fun h34 => ?_) (fun h34 => ?_)
          ·replace h34 := of_decide_eq_true h34
           refine jB <| kx [(4, (vl 3 1 uQ [])), (5, (jN 3))] [] (zE (aK 3 1) <| zM <| zZ) ?_
           refine jH ⟨_, (.tmp (d := (.sl 3 1 (List.map uQ []))) rfl (.tmp (d := (.val (.int .i64 (3)))) rfl .nil)), ?_⟩
           have he := hN.big hv (by omega) h34
           rw [he.1, he.2]; rfl
          ·replace h34 := of_decide_eq_false h34
           refine jF <| kx [(27, (jN (k + 1)))] [] (zE (vJ (k + 1)) <| zM <| zZ) ?_
           exact ⟨(k + 1, o.set k (o.getD (((t.getD k tz).a).toNat) 0)), wk, (hN.next hv ho (by omega)), (by first | omega | (dsimp only; omega))⟩
         ·replace h33 := ne_of_beq_false h33
          have h6 := h33
          refine jB <| kx [(147, (vb ((t.getD k tz).op == 7)))] [] (zE (qC xS) <| zR (uC dC) <| zE gJ <| zM <| zZ) ?_
          refine jK (b := ((t.getD k tz).op == 7)) rfl (fun h35 => ?_) (fun h35 => ?_)
          ·replace h35 := eq_of_beq h35
           have hv := szN_q hk0 h35 a3
           have hsl : (o.set k (2 * (o.getD (((t.getD k tz).a).toNat) 0))).length = o.length := List.length_set
           refine kx [] [(0, some (bm uQ (o.set k (2 * (o.getD (((t.getD k tz).a).toNat) 0)))))] (zM <| zM <| zM <| zE (qC hH) <| zR (uC nF) <| zE (eY mL (((t.getD k tz).a).toNat)) <| zR (oLp nF (((t.getD k tz).a).toNat) (0 : Int)) <| zE (zMl (2 * (o.getD (((t.getD k tz).a).toNat) 0))) <| zE (eY mL k) <| zT (oSp nF k (2 * (o.getD (((t.getD k tz).a).toNat) 0))) <| zZ) ?_
           refine jB <| kx [(164, (vb (decide (4096 < ((o.set k (2 * (o.getD (((t.getD k tz).a).toNat) 0))).getD k 0)))))] [] (zM <| zM <| zE (eY mL k) <| zR (oLp nF k (0 : Int)) <| zE yN <| zZ) ?_
           refine jK rfl (fun h36 => ?_) (fun h36 => ?_)
           ·replace h36 := of_decide_eq_true h36
            refine jB <| kx [(4, (vl 3 1 uQ [])), (5, (jN 3))] [] (zE (aK 3 1) <| zM <| zZ) ?_
            refine jH ⟨_, (.tmp (d := (.sl 3 1 (List.map uQ []))) rfl (.tmp (d := (.val (.int .i64 (3)))) rfl .nil)), ?_⟩
            have he := hN.big hv (by omega) h36
            rw [he.1, he.2]; rfl
           ·replace h36 := of_decide_eq_false h36
            refine jF <| kx [(27, (jN (k + 1)))] [] (zE (vJ (k + 1)) <| zM <| zZ) ?_
            exact ⟨(k + 1, o.set k (2 * (o.getD (((t.getD k tz).a).toNat) 0))), wk, (hN.next hv ho (by omega)), (by first | omega | (dsimp only; omega))⟩
          ·replace h35 := ne_of_beq_false h35
           obtain ⟨b1, b2, b3, b4, b5⟩ := hN.b ho hk0 h6 h35
           have hv := szN_b hk0 h6 h35 a3 b3
           have hsl : (o.set k ((o.getD (((t.getD k tz).a).toNat) 0) + (o.getD (((t.getD k tz).b).toNat) 0))).length = o.length := List.length_set
           refine kd [] [(0, some (bm uQ (o.set k ((o.getD (((t.getD k tz).a).toNat) 0) + (o.getD (((t.getD k tz).b).toNat) 0)))))] mo (wM <| wM <| wM <| wE (qC hH) <| wR (uC nF) <| wE (eY mL (((t.getD k tz).a).toNat)) <| wR (oLp nF (((t.getD k tz).a).toNat) (0 : Int)) <| wM <| wE (qC eZ) <| wR (uC nF) <| wE (eY mL (((t.getD k tz).b).toNat)) <| wR (oLp nF (((t.getD k tz).b).toNat) (0 : Int)) <| wE (zAd ((o.getD (((t.getD k tz).a).toNat) 0) + (o.getD (((t.getD k tz).b).toNat) 0))) <| wE (eY mL k) <| wT (oSp nF k ((o.getD (((t.getD k tz).a).toNat) 0) + (o.getD (((t.getD k tz).b).toNat) 0))) <| wZ) ?_
           refine jB <| kx [(164, (vb (decide (4096 < ((o.set k ((o.getD (((t.getD k tz).a).toNat) 0) + (o.getD (((t.getD k tz).b).toNat) 0))).getD k 0)))))] [] (zM <| zM <| zE (eY mL k) <| zR (oLp nF k (0 : Int)) <| zE yN <| zZ) ?_
           refine jK rfl (fun h37 => ?_) (fun h37 => ?_)
           ·replace h37 := of_decide_eq_true h37
            refine jB <| kx [(4, (vl 3 1 uQ [])), (5, (jN 3))] [] (zE (aK 3 1) <| zM <| zZ) ?_
            refine jH ⟨_, (.tmp (d := (.sl 3 1 (List.map uQ []))) rfl (.tmp (d := (.val (.int .i64 (3)))) rfl .nil)), ?_⟩
            have he := hN.big hv (by omega) h37
            rw [he.1, he.2]; rfl
           ·replace h37 := of_decide_eq_false h37
            refine jF <| kx [(27, (jN (k + 1)))] [] (zE (vJ (k + 1)) <| zM <| zZ) ?_
            exact ⟨(k + 1, o.set k ((o.getD (((t.getD k tz).a).toNat) 0) + (o.getD (((t.getD k tz).b).toNat) 0))), wk, (hN.next hv ho (by omega)), (by first | omega | (dsimp only; omega))⟩
    ·replace h5 := of_decide_eq_false h5
     refine kP <| jB <| kx [(4, (.own 0 3 1 t.length)), (5, (jN 0))] [] (zM <| zM <| zM <| zZ) ?_
     refine kA (xF (t := 4) (k := 0) (es := List.map uQ o) rfl rfl (uG _ _ (fun _ => rfl)) (qZ _ _ uF) (uU _ _ (fun _ => rfl) uF)) ?_
     refine jH ⟨_, (.tmp (d := (.sl 3 1 (List.map uQ o))) rfl (.tmp (d := (.val (.int .i64 (0)))) rfl .nil)), ?_⟩
     have he := tm_end hz0 h0 h400 hk h5 ho hu
     rw [he.1, he.2]; rfl
end Go.Proofs.YtnajallgoaiahaaGreatDoor
namespace Go.Proofs.YtnajallgoaiahaaGreatDoor
open Go.Fid
set_option maxRecDepth 4000
set_option linter.unusedVariables false
set_option linter.unusedSimpArgs false
theorem cb67 : callB Tryz.prog 67 = true := by kernel_rfl
theorem cb73 : callB Tryz.prog 73 = true := by kernel_rfl
theorem fo161_4 : zV Tryz.prog 161 4 = some 4 := by kernel_rfl
theorem pl161 : dN Tryz.prog 161 = some [(0, 1), (1, 1), (2, 1), (3, 1), (4, 1)] := by kernel_rfl
theorem ze161 : xW Tryz.prog 161 = some [.int .i64 0, .int .i64 0, .int .i64 0, .slice none 0 0, .bool false] := by kernel_rfl
theorem zn161 : fH [.int .i64 0, .int .i64 0, .int .i64 0, .slice none 0 0, .bool false] [.val (.int .i64 0), .val (.int .i64 0), .val (.int .i64 0), .val (.slice none 0 0), .val (.bool false)] := by simp [fH, Value.oneCell']
theorem hB12 (n : Nat) (L M : List JV) (h : L = M) : ([(0, some [(jN n), (jN 1), (vi (-1)), (.own 18 95 10 ((List.map jP (M)).length)), (vb false)]), (18, some (qD jC (List.map jP (M))))] : BS).map (fun e => (e.1, e.2.map fun c => c.map (SV.ren (xn 12 18)))) = ([(0, some [(jN n), (jN 1), (vi (-1)), (.own 12 95 10 ((List.map jP (L)).length)), (vb false)]), (12, some (qD jC (List.map jP (L))))] : BS).map (fun e => (xn 12 18 e.1, e.2)) := by
 subst h
 simp only [List.map_cons, List.map_nil, Option.map_some, qD, qH]
 rfl
theorem hB13 (n : Nat) (L M : List JV) (h : L = M) : ([(0, some [(jN n), (jN 1), (vi (-1)), (.own 18 95 10 ((List.map jP (M)).length)), (vb false)]), (18, some (qD jC (List.map jP (M))))] : BS).map (fun e => (e.1, e.2.map fun c => c.map (SV.ren (xn 13 18)))) = ([(0, some [(jN n), (jN 1), (vi (-1)), (.own 13 95 10 ((List.map jP (L)).length)), (vb false)]), (13, some (qD jC (List.map jP (L))))] : BS).map (fun e => (xn 13 18 e.1, e.2)) := by
 subst h
 simp only [List.map_cons, List.map_nil, Option.map_some, qD, qH]
 rfl
theorem hB17 (n : Nat) (L M : List JV) (h : L = M) : ([(0, some [(jN n), (jN 1), (vi (-1)), (.own 18 95 10 ((List.map jP (M)).length)), (vb false)]), (18, some (qD jC (List.map jP (M))))] : BS).map (fun e => (e.1, e.2.map fun c => c.map (SV.ren (xn 17 18)))) = ([(0, some [(jN n), (jN 1), (vi (-1)), (.own 17 95 10 ((List.map jP (L)).length)), (vb false)]), (17, some (qD jC (List.map jP (L))))] : BS).map (fun e => (xn 17 18 e.1, e.2)) := by
 subst h
 simp only [List.map_cons, List.map_nil, Option.map_some, qD, qH]
 rfl
theorem e_step (x : vB) (bv : List R2) (hbx : ∀ x ∈ bv, GL 1048576 x) (L : List JV) (hn : bv.length ≤ 64) (hL : L.length ≤ 1000) (hLk : ∀ y ∈ L, mG 1048576 bv.length y) (hx : NdOk bv.length L x) : xQ Tryz.prog 126 [(.ref 0 0), (.d (qP x)), (vl 61 8 jG (List.map kF bv))] [(0, some [(jN bv.length), (jN 1), (vi (-1)), (.own 1 95 10 ((List.map jP (L)).length)), (vb false)]), (1, some (qD jC (List.map jP (L))))] (.d (.tup [])) [(0, some [(jN bv.length), (jN 1), (vi (-1)), (.own 18 95 10 ((List.map jP (L ++ [nJ bv L x])).length)), (vb false)]), (18, some (qD jC (List.map jP (L ++ [nJ bv L x]))))] := by
 cases hx with
 | c hp => exact nE 12 18 (e_stepC _ hp (List.map kF bv) bv.length L hn hL) (hB12 _ _ _ (congrArg (L ++ [·]) (show _ = _ from (by unfold nJ nV nG; rw [nK]; rfl)))) rfl (by kernel_rfl)
 | v ha => exact nE 12 18 (e_stepV _ bv hbx bv.length L hn hL ha (by omega)) (hB12 _ _ _ (congrArg (L ++ [·]) (show _ = _ from rfl))) rfl (by kernel_rfl)
 | add ha hb => exact nE 13 18 (e_stepA _ _ (List.map kF bv) bv.length L hn hL hLk ha hb) (hB13 _ _ _ (congrArg (L ++ [·]) (show _ = _ from rfl))) rfl (by kernel_rfl)
 | sub ha hb => exact nE 13 18 (e_stepS _ _ (List.map kF bv) bv.length L hn hL hLk ha hb) (hB13 _ _ _ (congrArg (L ++ [·]) (show _ = _ from rfl))) rfl (by kernel_rfl)
 | mul ha hb => exact nE 12 18 (e_stepM _ _ (List.map kF bv) bv.length L hn hL hLk ha hb) (hB12 _ _ _ (congrArg (L ++ [·]) (show _ = _ from rfl))) rfl (by kernel_rfl)
 | div ha hb hz => exact nE 12 18 (e_stepD _ _ (List.map kF bv) bv.length L hn hL hLk ha hb hz) (hB12 _ _ _ (congrArg (L ++ [·]) (show _ = _ from rfl))) rfl (by kernel_rfl)
 | neg ha => exact nE 17 18 (e_stepN _ (List.map kF bv) bv.length L hn hL hLk ha) (hB17 _ _ _ (congrArg (L ++ [·]) (show _ = _ from rfl))) rfl (by kernel_rfl)
 | sq ha => exact nE 13 18 (e_stepQ _ (List.map kF bv) bv.length L hn hL hLk ha) (hB13 _ _ _ (congrArg (L ++ [·]) (show _ = _ from rfl))) rfl (by kernel_rfl)
theorem j_chk (t : List vB) (ht : TnsOk 1048576 t) (z : Int) : jW Tryz.prog 73 [(.sl 83 7 (List.map qP t)), (.val (.int .i64 (z)))] (.val (.int .i64 ((((tmC z t) : Nat) : Int)))) := by
 refine jM Tryz.func73 rfl cb73 rfl ?_
 show qJ _ _ _ _ ⟨[(0, (vl 83 7 qP t)), (1, (vi z))], []⟩
 refine jB <| kx [] [] (zM <| zZ) ?_
 refine jB <| kx [(6, (jN (tmC z t)))] [] (zM <| zM <| zE (kG (j_sizes t ht z)) <| zM <| zE vX <| zE vX <| zM <| zM <| zZ) ?_
 refine jB <| kx [(4, (jN (tmC z t)))] [] (zM <| zM <| zZ) ?_
 refine jH ⟨_, (.tmp (d := (.val (.int .i64 ((((tmC z t) : Nat) : Int))))) rfl .nil), ?_⟩
 rfl
theorem j_jets (t : List vB) (ht : TnsOk 1048576 t) (bv : List R2) (hbx : ∀ x ∈ bv, GL 1048576 x) (hr : aS bv t) : jW Tryz.prog 67 [(.sl 83 7 (List.map qP t)), (.sl 61 8 (List.map jG (List.map kF bv))), (.val (.int .i64 (((1 : Nat) : Int)))), (.val (.int .i64 (-1)))] (.tup [(jC (jP (gU bv t))), (.val (.int .i64 (((0 : Nat) : Int))))]) := by
 have h0 := tm_0 hr.c0
 let y3 := (kD.mk (jJ.mk (jE.mk false []) (jE.mk false [])) (jJ.mk (jE.mk false []) (jE.mk false [])))
 let y2 := (bx (jC (uV.mk y3 [] [])))
 let y1 := (bx (.agg [(.val (.int .i64 (((bv.length : Nat) : Int)))), (.val (.int .i64 (((1 : Nat) : Int)))), (.val (.int .i64 (-1))), (.val (.slice none 0 0)), (.val (.bool (false)))]))
 refine jM Tryz.func67 rfl cb67 rfl ?_
 show qJ _ _ _ _ ⟨[(0, (vl 83 7 qP t)), (1, (vl 61 8 jG (List.map kF bv))), (2, (jN 1)), (3, (vi (-1)))], []⟩
 refine jB <| kx [(8, (.ref 0 0))] [(0, some y2)] (zN (qS 0 zG nI) <| zM <| zZ) ?_
 refine jB <| jB <| kx [(16, (vl 61 8 jG (List.map kF bv))), (17, (jN bv.length)), (18, (jN 0))] [] (zM <| zE (oLn yR bv.length) <| zM <| zZ) ?_
 refine jI <| kU (α := Nat) (fun i => ⟨[(0, (vl 83 7 qP t)), (1, (vl 61 8 jG (List.map kF bv))), (2, (jN 1)), (3, (vi (-1))), (8, (.ref 0 0)), (16, (vl 61 8 jG (List.map kF bv))), (17, (jN bv.length)), (18, (jN i))], [(0, some y2)]⟩) (fun i => i ≤ bv.length) (fun i => bv.length - i) 0 wk (Nat.zero_le _) ?_
 rintro i hi
 refine jB <| kx [(19, (vb (decide (((i : Nat) : Int) < ((bv.length : Nat) : Int)))))] [] (zE vW <| zZ) ?_
 refine jB <| jK rfl (fun h1 => ?_) (fun h1 => ?_)
 ·replace h1 := of_decide_eq_true h1
  refine jF <| jB <| jI <| jB <| kx [(11, (.ref 1 0))] [(1, some (bx (jG (kF (bv.getD i z2)))))] (zE (oXm yR kF i z2) <| zE (gH kS) <| zN (qS 1 uI uP) <| zT (qF kS) <| zZ) ?_
  refine jB <| kx [(24, (vb false))] [] (zR (kK kS) <| zE (kG (by have h := i_valid (kF (bv.getD i z2)) (nT (⟨uE (jR (kM (xP hbx (by decide) i).1) (by decide : 1048576 ≤ 1048576)), uE (jR (kM (xP hbx (by decide) i).2.1) (by decide : 1048576 ≤ 1048576))⟩) (by decide)); rw [show xB (kF (bv.getD i z2)) = true from yO (xP hbx (by decide) i).2.2] at h; exact h)) <| zE cE <| zZ) ?_
  refine kO ?_
  refine jF <| kx [(18, (jN (i + 1)))] [] (zE (vJ (i + 1)) <| zM <| zZ) ?_
  exact ⟨i + 1, wk, (by omega), (by first | omega | (dsimp only; omega))⟩
 ·replace h1 := of_decide_eq_false h1
  refine kP <| jB <| jB <| kx [(36, (vb false))] [] (zM <| zE (uX false vW) <| zM <| zM <| zE (uX false yN) <| zE nA <| zM <| zM <| zE (uX false yN) <| zE nA <| zZ) ?_
  refine kO ?_
  refine jF <| jB <| jB <| kx [(12, (jN (tmC ((bv.length : Nat) : Int) t)))] [] (zM <| zM <| zE (oLn yR bv.length) <| zE (kG (j_chk t ht ((bv.length : Nat) : Int))) <| zM <| zZ) ?_
  refine jB <| kx [(43, (vb false))] [] (zM <| zE (uX false oNe (by exact bne_eq_false_iff_eq.2 (by rw [show (tmC ((bv.length : Nat) : Int) t) = 0 from hr.c0]; rfl))) <| zZ) ?_
  refine kO ?_
  refine jF <| jB <| kx [(13, (.ref 2 0))] [(2, some y1)] (zM <| zE (oLn yR bv.length) <| zM <| zM <| zE (fM pl161 ze161 zn161) <| zN (uZ 2) <| zM <| zZ) ?_
  refine jB <| jB <| yS 2 3 3 95 10 (cs := y1) (h := ?_)
  refine kA (wk (l := [(0, (vl 83 7 qP t)), (1, (vl 61 8 jG (List.map kF bv))), (8, (.ref 0 0)), (13, (.ref 2 0))]) (b := [(0, some y2), (2, some [(jN bv.length), (jN 1), (vi (-1)), (.own 3 95 10 0), (vb false)]), (3, some (qD jC []))])) ?_
  refine kx [(52, (vl 83 7 qP t)), (53, (jN t.length)), (54, (jN 0))] [] (zM <| zE (zB el23) <| zM <| zZ) ?_
  refine jI <| kU (α := Nat) (fun k => ⟨[(1, (vl 61 8 jG (List.map kF bv))), (8, (.ref 0 0)), (13, (.ref 2 0)), (52, (vl 83 7 qP t)), (53, (jN t.length)), (54, (jN k))], [(0, some y2), (2, some [(jN bv.length), (jN 1), (vi (-1)), (.own 3 95 10 ((List.map jP (jU bv t k)).length)), (vb false)]), (3, some (qD jC (List.map jP (jU bv t k))))]⟩) (fun k => k ≤ t.length) (fun k => t.length - k) 0 wk (Nat.zero_le _) ?_
  rintro k hk
  have hju := jU_len bv t k
  have hjm : (List.map jP (jU bv t k)).length = k := by rw [List.length_map, hju]
  have hup := hr.upto hk
  refine jB <| kx [(55, (vb (decide (((k : Nat) : Int) < ((t.length : Nat) : Int)))))] [] (zE vW <| zZ) ?_
  refine jB <| jK rfl (fun h2 => ?_) (fun h2 => ?_)
  ·replace h2 := of_decide_eq_true h2
   refine jF <| jB <| jI <| jB <| kx [(15, (.ref 4 0))] [(4, some (bx (qP (t.getD k tz))))] (zE (hZ el23 k (tz : vB)) <| zE (gH sh83) <| zH (qS 4 ze83 zo83) <| zT (qF sh83) <| zZ) ?_
   refine jB <| kf [] [(2, some [(jN bv.length), (jN 1), (vi (-1)), (.own 21 95 10 ((List.map jP ((jU bv t k) ++ [(nJ bv (jU bv t k) (t.getD k tz))])).length)), (vb false)]), (21, some (qD jC (List.map jP ((jU bv t k) ++ [(nJ bv (jU bv t k) (t.getD k tz))])))), (10, none), (11, none), (12, none), (13, none), (14, none), (15, none), (16, none), (17, none), (18, none), (19, none), (20, none), (3, none), (5, none), (6, none), (7, none), (8, none), (9, none)] (zM <| zR (kK sh83) <| zM <| zS (B2 := [(2, some [(jN bv.length), (jN 1), (vi (-1)), (.own 3 95 10 ((List.map jP (jU bv t k)).length)), (vb false)]), (3, some (qD jC (List.map jP (jU bv t k))))]) (B2' := [(2, some [(jN bv.length), (jN 1), (vi (-1)), (.own 21 95 10 ((List.map jP ((jU bv t k) ++ [(nJ bv (jU bv t k) (t.getD k tz))])).length)), (vb false)]), (21, some (qD jC (List.map jP ((jU bv t k) ++ [(nJ bv (jU bv t k) (t.getD k tz))]))))]) (M := 1000000) [2, 3, 5, 6, 7, 8, 9, 10, 11, 12, 13, 14, 15, 16, 17, 18, 19, 20, 21] [2] (e_step (t.getD k tz) bv hbx (jU bv t k) (by omega) (by omega) (by assumption) (hr.nd ht (show k < t.length by omega))) (.cons (by exact rfl) (by kernel_rfl) (.cons (by exact rfl) (qH _ _) .nil)) (.cons (by exact rfl) (by kernel_rfl) (.cons (by exact rfl) (qH _ _) .nil)) (by repeat first | exact .nil | refine .hid rfl ?_ | refine .map rfl ?_ | refine .dat rfl ?_ | refine .none rfl ?_ | refine .cells rfl rfl ?_) <| zF) ?_
   refine kA (wk (l := [(1, (vl 61 8 jG (List.map kF bv))), (8, (.ref 0 0)), (13, (.ref 2 0)), (52, (vl 83 7 qP t)), (53, (jN t.length)), (54, (jN k))]) (b := [(0, some y2), (2, some [(jN bv.length), (jN 1), (vi (-1)), (.own 21 95 10 ((List.map jP ((jU bv t k) ++ [(nJ bv (jU bv t k) (t.getD k tz))])).length)), (vb false)]), (21, some (qD jC (List.map jP ((jU bv t k) ++ [(nJ bv (jU bv t k) (t.getD k tz))]))))])) ?_
   refine kA (cA (S' := [(1, (vl 61 8 jG (List.map kF bv))), (8, (.ref 0 0)), (13, (.ref 2 0)), (52, (vl 83 7 qP t)), (53, (jN t.length)), (54, (jN k))]) (B' := [(0, some y2), (2, some [(jN bv.length), (jN 1), (vi (-1)), (.own 3 95 10 ((List.map jP ((jU bv t k) ++ [(nJ bv (jU bv t k) (t.getD k tz))])).length)), (vb false)]), (3, some (qD jC (List.map jP ((jU bv t k) ++ [(nJ bv (jU bv t k) (t.getD k tz))]))))]) 3 21 2) ?_
   refine jB <| kx [(65, (vb false))] [] (zM <| zE dD <| zE (qC fo161_4) <| zR (uC sh4) <| zZ) ?_
   refine kO ?_
   refine jF <| kx [(54, (jN (k + 1)))] [] (zE (vJ (k + 1)) <| zM <| zZ) ?_
   exact ⟨k + 1, wk, (by omega), (by first | omega | (dsimp only; omega))⟩
  ·replace h2 := of_decide_eq_false h2
   refine kP <| jB <| kd [(9, (jN 0))] [(0, some (bx (jC ((List.map jP (jU bv t k)).getD ((List.map jP (jU bv t k)).length - 1) (uV.mk y3 [] [])))))] mo (wM <| wE dD <| wE (qC vK) <| wR (uC yX) <| wM <| wE dD <| wE (qC vK) <| wR (uC yX) <| wE (oLo yZ) <| wE (oSb ((List.map jP (jU bv t k)).length - 1)) <| wE (oXO yZ ((List.map jP (jU bv t k)).length - 1)) <| wR (oLA gA ((List.map jP (jU bv t k)).length - 1) (uV.mk y3 [] [])) <| wT (qF gA) <| wM <| wZ) ?_
   refine jH ⟨_, (qA (cs := (bx (jC ((List.map jP (jU bv t k)).getD ((List.map jP (jU bv t k)).length - 1) (uV.mk (kD.mk (jJ.mk (jE.mk false []) (jE.mk false [])) (jJ.mk (jE.mk false []) (jE.mk false []))) [] []))))) (d := (jC ((List.map jP (jU bv t k)).getD ((List.map jP (jU bv t k)).length - 1) (uV.mk (kD.mk (jJ.mk (jE.mk false []) (jE.mk false [])) (jJ.mk (jE.mk false []) (jE.mk false []))) [] [])))) rfl rfl gA rfl rfl (.tmp (d := (.val (.int .i64 (((0 : Nat) : Int))))) rfl .nil)), ?_⟩
   obtain rfl : k = t.length := by omega
   rw [List.length_map, hju, hP jP _ jz _ (by omega)]
   unfold gU; rfl
end Go.Proofs.YtnajallgoaiahaaGreatDoor
