/- Part 29 of a proof: rules, plain facts, and functions walked. -/
import Derived.Test.YtnajallgoaiahaaGreatDoorM28
namespace Go.Proofs.YtnajallgoaiahaaGreatDoor
open Go.Fid
set_option maxRecDepth 4000
set_option linter.unusedVariables false
set_option linter.unusedSimpArgs false
theorem cb58 : callB Tryz.prog 58 = true := by kernel_rfl
theorem cb119 : callB Tryz.prog 119 = true := by kernel_rfl
theorem yK : uZ Tryz.prog 109 = some (102, 1) := by kernel_rfl
theorem xG : qL Tryz.prog 102 = some (false, 1) := by kernel_rfl
theorem t_chk (ls : List (List Int)) (hb : ls.length ≤ 10) (h0 : 0 < ls.length) (hlb : ∀ y ∈ ls, y.length ≤ 1000000) : jT Tryz.prog 119 [(.sl 102 1 (List.map qX ls))] (.val (.int .i64 ((((cI ls) : Nat) : Int)))) := by
 refine jJ Tryz.func119 rfl cb119 rfl ?_
 show qR _ _ _ _ ⟨[(0, (vl 102 1 qX ls))], []⟩
 refine jB<|kx [] [] (zM<|zZ) ?_
 refine jB<|jB<|kx [(11, (vl 102 1 qX ls)), (12, (jN ls.length)), (13, (jN 0))] [] (zM<|zE (vX yK)<|zM<|zZ) ?_
 refine jG<|kI (α := Nat) (fun i => ⟨[(0, (vl 102 1 qX ls)), (11, (vl 102 1 qX ls)), (12, (jN ls.length)), (13, (jN i))], []⟩) (fun i => i ≤ ls.length ∧ (ls.take i).any crE = false) (fun i => ls.length - i) 0 wk ⟨Nat.zero_le _, by simp⟩ ?_
 rintro i ⟨hi, hal⟩
 refine jB<|kx [(14, (vb (decide (((i : Nat) : Int) < ((ls.length : Nat) : Int)))))] [] (zE vZ<|zZ) ?_
 refine jB<|jF rfl (fun h1 => ?_) (fun h1 => ?_)
 ·replace h1 := uH h1
  refine jD<|jB<|jG<|jB<|kx [(4, (vl 3 1 jI (ls.getD i [])))] [] (zE (zU yK i ([] : List (Int)))<|zE (xI xG)<|zM<|zZ) ?_
  refine jB<|kx [(19, (vb ((((ls.getD i []).length : Nat) : Int) == 0)))] [] (zM<|zE (vX qP (L := (ls.getD i [])))<|zE gA<|zZ) ?_
  refine jF rfl (fun h2 => ?_) (fun h2 => ?_)
  ·replace h2 := eq_of_beq h2
   refine jB<|kx [(2, (jN 6))] [] (zM<|zZ) ?_
   refine jE ⟨_, (.tmp (d := (.val (.int .i64 (6)))) rfl .nil), ?_⟩
   rw [crd_6 (aA (i := i) (d := []) (by omega) (by simpa [crE] using h2))]; rfl
  ·replace h2 := ne_of_beq_false h2
   refine jD<|kx [(13, (jN (i + 1)))] [] (zE (vG (i + 1))<|zM<|zZ) ?_
   exact ⟨i + 1, wk, ⟨by omega, aN (d := []) (by omega) hal (by simpa [crE] using h2)⟩, (by first|omega|(dsimp only;omega))⟩
 ·replace h1 := vB h1
  have he1 := dH (by omega) hal
  refine kC<|jB<|jB<|kx [(21, (vl 102 1 qX ls)), (22, (jN ls.length)), (23, (jN 0))] [] (zM<|zE (vX yK)<|zM<|zZ) ?_
  refine jG<|kI (α := Nat) (fun i => ⟨[(0, (vl 102 1 qX ls)), (21, (vl 102 1 qX ls)), (22, (jN ls.length)), (23, (jN i))], []⟩) (fun i => i ≤ ls.length ∧ (ls.take i).any (crM (ls.getD 0 []).length) = false) (fun i => ls.length - i) 0 wk ⟨Nat.zero_le _, by simp⟩ ?_
  rintro i ⟨hi, hal⟩
  refine jB<|kx [(24, (vb (decide (((i : Nat) : Int) < ((ls.length : Nat) : Int)))))] [] (zE vZ<|zZ) ?_
  refine jB<|jF rfl (fun h3 => ?_) (fun h3 => ?_)
  ·replace h3 := uH h3
   refine jD<|jB<|jG<|jB<|kx [(6, (vl 3 1 jI (ls.getD i [])))] [] (zE (zU yK i ([] : List (Int)))<|zE (xI xG)<|zM<|zZ) ?_
   refine jB<|kx [(33, (vb ((((ls.getD i []).length : Nat) : Int) != (((ls.getD 0 []).length : Nat) : Int))))] [] (zM<|zE (vX qP (L := (ls.getD i [])))<|zM<|zE (zU yK 0 ([] : List (Int)))<|zE (xI xG)<|zE (vX qP (L := (ls.getD 0 [])))<|zE nR<|zZ) ?_
   refine jF rfl (fun h4 => ?_) (fun h4 => ?_)
   ·replace h4 := bne_iff_ne.1 h4
    refine jB<|kx [(2, (jN 4))] [] (zM<|zZ) ?_
    refine jE ⟨_, (.tmp (d := (.val (.int .i64 (4)))) rfl .nil), ?_⟩
    rw [crd_4 he1 (aA (i := i) (d := []) (by omega) (by simpa [crM] using h4))]; rfl
   ·replace h4 := bne_eq_false_iff_eq.1 h4
    refine jD<|kx [(23, (jN (i + 1)))] [] (zE (vG (i + 1))<|zM<|zZ) ?_
    exact ⟨i + 1, wk, ⟨by omega, aN (d := []) (by omega) hal (by simpa [crM] using h4)⟩, (by first|omega|(dsimp only;omega))⟩
  ·replace h3 := vB h3
   have he2 := dH (by omega) hal
   refine kC<|jB<|jB<|kx [(39, (vb (decide (3 < (((ls.getD 0 []).length : Nat) : Int)))))] [] (zM<|zE (zU yK 0 ([] : List (Int)))<|zE (xI xG)<|zE (vX qP (L := (ls.getD 0 [])))<|zE mO<|zZ) ?_
   refine jF rfl (fun h5 => ?_) (fun h5 => ?_)
   ·replace h5 := uH h5
    refine jB<|kx [(2, (jN 3))] [] (zM<|zZ) ?_
    refine jE ⟨_, (.tmp (d := (.val (.int .i64 (3)))) rfl .nil), ?_⟩
    rw [crd_3 he1 he2 h5]; rfl
   ·replace h5 := vB h5
    have he3 := h5
    refine jD<|jB<|jB<|kx [(40, (vl 102 1 qX ls)), (41, (jN ls.length)), (42, (jN 0))] [] (zM<|zE (vX yK)<|zM<|zZ) ?_
    refine jG<|kI (α := Nat) (fun i => ⟨[(40, (vl 102 1 qX ls)), (41, (jN ls.length)), (42, (jN i))], []⟩) (fun i => i ≤ ls.length ∧ (ls.take i).any (fun a => a.any crK) = false) (fun i => ls.length - i) 0 wk ⟨Nat.zero_le _, by simp⟩ ?_
    rintro i ⟨hi, hal⟩
    refine jB<|kx [(43, (vb (decide (((i : Nat) : Int) < ((ls.length : Nat) : Int)))))] [] (zE vZ<|zZ) ?_
    refine jB<|jF rfl (fun h6 => ?_) (fun h6 => ?_)
    ·replace h6 := uH h6
     have hli := mem_at hlb (show i < ls.length by omega)
     refine jD<|jB<|jG<|jB<|kx [(8, (vl 3 1 jI (ls.getD i [])))] [] (zE (zU yK i ([] : List (Int)))<|zE (xI xG)<|zM<|zZ) ?_
     refine jB<|kx [(46, (vl 3 1 jI (ls.getD i []))), (47, (jN ((ls.getD i []).length))), (48, (jN 0))] [] (zM<|zE (vX qP (L := (ls.getD i [])))<|zM<|zZ) ?_
     refine jG<|kI (α := Nat) (fun j => ⟨[(40, (vl 102 1 qX ls)), (41, (jN ls.length)), (42, (jN i)), (46, (vl 3 1 jI (ls.getD i []))), (47, (jN ((ls.getD i []).length))), (48, (jN j))], []⟩) (fun j => j ≤ (ls.getD i []).length ∧ ((ls.getD i []).take j).any crK = false) (fun j => (ls.getD i []).length - j) 0 wk ⟨Nat.zero_le _, by simp⟩ ?_
     rintro j ⟨hj, hal2⟩
     refine jB<|kx [(49, (vb (decide (((j : Nat) : Int) < (((ls.getD i []).length : Nat) : Int)))))] [] (zE vZ<|zZ) ?_
     refine jB<|jF rfl (fun h7 => ?_) (fun h7 => ?_)
     ·replace h7 := uH h7
      refine jD<|jB<|jG<|jB<|kx [(10, (vi ((ls.getD i []).getD j 0)))] [] (zE (zU qP j (0 : Int) (L := (ls.getD i [])))<|zE (xI yV)<|zM<|zZ) ?_
      refine jB<|kx [(57, (vb (decide (((ls.getD i []).getD j 0) < 0) || decide (64 ≤ ((ls.getD i []).getD j 0)))))] [] ?_ ?_
      ·refine zM<|zE vZ<|zE (oV (vb (decide (((ls.getD i []).getD j 0) < 0))) (qH (by kernel_rfl)))<|?_
       rcases hb8 : (decide (((ls.getD i []).getD j 0) < 0)) with _ | _
       ·replace hb8 := vB hb8
        exact zM<|zE oGe<|zE aO<|zZ
       ·replace hb8 := uH hb8
        exact zK<|zK<|zE hZ<|zZ
      refine jF rfl (fun h9 => ?_) (fun h9 => ?_)
      ·refine jB<|kx [(2, (jN 2))] [] (zM<|zZ) ?_
       refine jE ⟨_, (.tmp (d := (.val (.int .i64 (2)))) rfl .nil), ?_⟩
       rw [crd_2 he1 he2 he3 (aA (i := i) (d := []) (by omega) (aA (i := j) (d := 0) (by omega) (by have hq := h9; simp only [crK, Bool.or_eq_true, decide_eq_true_eq] at hq ⊢; omega)))]; rfl
      ·refine jD<|kx [(48, (jN (j + 1)))] [] (zE (vG (j + 1))<|zM<|zZ) ?_
       exact ⟨j + 1, wk, ⟨by omega, aN (d := 0) (by omega) hal2 (by have hq := h9; simp only [crK, Bool.or_eq_false_iff, decide_eq_false_iff_not] at hq ⊢; omega)⟩, (by first|omega|(dsimp only;omega))⟩
     ·replace h7 := vB h7
      refine kC<|kx [(42, (jN (i + 1)))] [] (zE (vG (i + 1))<|zM<|zZ) ?_
      exact ⟨i + 1, wk, ⟨by omega, aN (d := []) (by omega) hal (dH (by omega) hal2)⟩, (by first|omega|(dsimp only;omega))⟩
    ·replace h6 := vB h6
     refine kC<|jB<|kx [(2, (jN 0))] [] (zM<|zZ) ?_
     refine jE ⟨_, (.tmp (d := (.val (.int .i64 (0)))) rfl .nil), ?_⟩
     rw [crd_0 he1 he2 he3 (dH (by omega) hal)]; rfl
theorem t_crd (ls : List (List Int)) (hb : ls.length ≤ 10) (h0 : 0 < ls.length) (hlb : ∀ y ∈ ls, y.length ≤ 1000000) : jT Tryz.prog 58 [(.sl 102 1 (List.map qX ls))] (.val (.int .i64 ((((cI ls) : Nat) : Int)))) := by
 refine jJ Tryz.func58 rfl cb58 rfl ?_
 show qR _ _ _ _ ⟨[(0, (vl 102 1 qX ls))], []⟩
 refine jB<|kx [] [] (zM<|zZ) ?_
 refine jB<|jB<|kx [(11, (vl 102 1 qX ls)), (12, (jN ls.length)), (13, (jN 0))] [] (zM<|zE (vX yK)<|zM<|zZ) ?_
 refine jG<|kI (α := Nat) (fun i => ⟨[(0, (vl 102 1 qX ls)), (11, (vl 102 1 qX ls)), (12, (jN ls.length)), (13, (jN i))], []⟩) (fun i => i ≤ ls.length ∧ (ls.take i).any crE = false) (fun i => ls.length - i) 0 wk ⟨Nat.zero_le _, by simp⟩ ?_
 rintro i ⟨hi, hal⟩
 refine jB<|kx [(14, (vb (decide (((i : Nat) : Int) < ((ls.length : Nat) : Int)))))] [] (zE vZ<|zZ) ?_
 refine jB<|jF rfl (fun h1 => ?_) (fun h1 => ?_)
 ·replace h1 := uH h1
  refine jD<|jB<|jG<|jB<|kx [(4, (vl 3 1 jI (ls.getD i [])))] [] (zE (zU yK i ([] : List (Int)))<|zE (xI xG)<|zM<|zZ) ?_
  refine jB<|kx [(19, (vb ((((ls.getD i []).length : Nat) : Int) == 0)))] [] (zM<|zE (vX qP (L := (ls.getD i [])))<|zE gA<|zZ) ?_
  refine jF rfl (fun h2 => ?_) (fun h2 => ?_)
  ·replace h2 := eq_of_beq h2
   refine jB<|kx [(2, (jN 6))] [] (zM<|zZ) ?_
   refine jE ⟨_, (.tmp (d := (.val (.int .i64 (6)))) rfl .nil), ?_⟩
   rw [crd_6 (aA (i := i) (d := []) (by omega) (by simpa [crE] using h2))]; rfl
  ·replace h2 := ne_of_beq_false h2
   refine jD<|kx [(13, (jN (i + 1)))] [] (zE (vG (i + 1))<|zM<|zZ) ?_
   exact ⟨i + 1, wk, ⟨by omega, aN (d := []) (by omega) hal (by simpa [crE] using h2)⟩, (by first|omega|(dsimp only;omega))⟩
 ·replace h1 := vB h1
  have he1 := dH (by omega) hal
  refine kC<|jB<|jB<|kx [(21, (vl 102 1 qX ls)), (22, (jN ls.length)), (23, (jN 0))] [] (zM<|zE (vX yK)<|zM<|zZ) ?_
  refine jG<|kI (α := Nat) (fun i => ⟨[(0, (vl 102 1 qX ls)), (21, (vl 102 1 qX ls)), (22, (jN ls.length)), (23, (jN i))], []⟩) (fun i => i ≤ ls.length ∧ (ls.take i).any (crM (ls.getD 0 []).length) = false) (fun i => ls.length - i) 0 wk ⟨Nat.zero_le _, by simp⟩ ?_
  rintro i ⟨hi, hal⟩
  refine jB<|kx [(24, (vb (decide (((i : Nat) : Int) < ((ls.length : Nat) : Int)))))] [] (zE vZ<|zZ) ?_
  refine jB<|jF rfl (fun h3 => ?_) (fun h3 => ?_)
  ·replace h3 := uH h3
   refine jD<|jB<|jG<|jB<|kx [(6, (vl 3 1 jI (ls.getD i [])))] [] (zE (zU yK i ([] : List (Int)))<|zE (xI xG)<|zM<|zZ) ?_
   refine jB<|kx [(33, (vb ((((ls.getD i []).length : Nat) : Int) != (((ls.getD 0 []).length : Nat) : Int))))] [] (zM<|zE (vX qP (L := (ls.getD i [])))<|zM<|zE (zU yK 0 ([] : List (Int)))<|zE (xI xG)<|zE (vX qP (L := (ls.getD 0 [])))<|zE nR<|zZ) ?_
   refine jF rfl (fun h4 => ?_) (fun h4 => ?_)
   ·replace h4 := bne_iff_ne.1 h4
    refine jB<|kx [(2, (jN 4))] [] (zM<|zZ) ?_
    refine jE ⟨_, (.tmp (d := (.val (.int .i64 (4)))) rfl .nil), ?_⟩
    rw [crd_4 he1 (aA (i := i) (d := []) (by omega) (by simpa [crM] using h4))]; rfl
   ·replace h4 := bne_eq_false_iff_eq.1 h4
    refine jD<|kx [(23, (jN (i + 1)))] [] (zE (vG (i + 1))<|zM<|zZ) ?_
    exact ⟨i + 1, wk, ⟨by omega, aN (d := []) (by omega) hal (by simpa [crM] using h4)⟩, (by first|omega|(dsimp only;omega))⟩
  ·replace h3 := vB h3
   have he2 := dH (by omega) hal
   refine kC<|jB<|jB<|kx [(39, (vb (decide (3 < (((ls.getD 0 []).length : Nat) : Int)))))] [] (zM<|zE (zU yK 0 ([] : List (Int)))<|zE (xI xG)<|zE (vX qP (L := (ls.getD 0 [])))<|zE mO<|zZ) ?_
   refine jF rfl (fun h5 => ?_) (fun h5 => ?_)
   ·replace h5 := uH h5
    refine jB<|kx [(2, (jN 3))] [] (zM<|zZ) ?_
    refine jE ⟨_, (.tmp (d := (.val (.int .i64 (3)))) rfl .nil), ?_⟩
    rw [crd_3 he1 he2 h5]; rfl
   ·replace h5 := vB h5
    have he3 := h5
    refine jD<|jB<|jB<|kx [(40, (vl 102 1 qX ls)), (41, (jN ls.length)), (42, (jN 0))] [] (zM<|zE (vX yK)<|zM<|zZ) ?_
    refine jG<|kI (α := Nat) (fun i => ⟨[(40, (vl 102 1 qX ls)), (41, (jN ls.length)), (42, (jN i))], []⟩) (fun i => i ≤ ls.length ∧ (ls.take i).any (fun a => a.any crK) = false) (fun i => ls.length - i) 0 wk ⟨Nat.zero_le _, by simp⟩ ?_
    rintro i ⟨hi, hal⟩
    refine jB<|kx [(43, (vb (decide (((i : Nat) : Int) < ((ls.length : Nat) : Int)))))] [] (zE vZ<|zZ) ?_
    refine jB<|jF rfl (fun h6 => ?_) (fun h6 => ?_)
    ·replace h6 := uH h6
     have hli := mem_at hlb (show i < ls.length by omega)
     refine jD<|jB<|jG<|jB<|kx [(8, (vl 3 1 jI (ls.getD i [])))] [] (zE (zU yK i ([] : List (Int)))<|zE (xI xG)<|zM<|zZ) ?_
     refine jB<|kx [(46, (vl 3 1 jI (ls.getD i []))), (47, (jN ((ls.getD i []).length))), (48, (jN 0))] [] (zM<|zE (vX qP (L := (ls.getD i [])))<|zM<|zZ) ?_
     refine jG<|kI (α := Nat) (fun j => ⟨[(40, (vl 102 1 qX ls)), (41, (jN ls.length)), (42, (jN i)), (46, (vl 3 1 jI (ls.getD i []))), (47, (jN ((ls.getD i []).length))), (48, (jN j))], []⟩) (fun j => j ≤ (ls.getD i []).length ∧ ((ls.getD i []).take j).any crK = false) (fun j => (ls.getD i []).length - j) 0 wk ⟨Nat.zero_le _, by simp⟩ ?_
     rintro j ⟨hj, hal2⟩
     refine jB<|kx [(49, (vb (decide (((j : Nat) : Int) < (((ls.getD i []).length : Nat) : Int)))))] [] (zE vZ<|zZ) ?_
     refine jB<|jF rfl (fun h7 => ?_) (fun h7 => ?_)
     ·replace h7 := uH h7
      refine jD<|jB<|jG<|jB<|kx [(10, (vi ((ls.getD i []).getD j 0)))] [] (zE (zU qP j (0 : Int) (L := (ls.getD i [])))<|zE (xI yV)<|zM<|zZ) ?_
      refine jB<|kx [(57, (vb (decide (((ls.getD i []).getD j 0) < 0) || decide (63 < ((ls.getD i []).getD j 0)))))] [] ?_ ?_
      ·refine zM<|zE vZ<|zE (oV (vb (decide (((ls.getD i []).getD j 0) < 0))) (qH (by kernel_rfl)))<|?_
       rcases hb8 : (decide (((ls.getD i []).getD j 0) < 0)) with _ | _
       ·replace hb8 := vB hb8
        exact zM<|zE mO<|zE aO<|zZ
       ·replace hb8 := uH hb8
        exact zK<|zK<|zE hZ<|zZ
      refine jF rfl (fun h9 => ?_) (fun h9 => ?_)
      ·refine jB<|kx [(2, (jN 2))] [] (zM<|zZ) ?_
       refine jE ⟨_, (.tmp (d := (.val (.int .i64 (2)))) rfl .nil), ?_⟩
       rw [crd_2 he1 he2 he3 (aA (i := i) (d := []) (by omega) (aA (i := j) (d := 0) (by omega) (by have hq := h9; simp only [crK, Bool.or_eq_true, decide_eq_true_eq] at hq ⊢; omega)))]; rfl
      ·refine jD<|kx [(48, (jN (j + 1)))] [] (zE (vG (j + 1))<|zM<|zZ) ?_
       exact ⟨j + 1, wk, ⟨by omega, aN (d := 0) (by omega) hal2 (by have hq := h9; simp only [crK, Bool.or_eq_false_iff, decide_eq_false_iff_not] at hq ⊢; omega)⟩, (by first|omega|(dsimp only;omega))⟩
     ·replace h7 := vB h7
      refine kC<|kx [(42, (jN (i + 1)))] [] (zE (vG (i + 1))<|zM<|zZ) ?_
      exact ⟨i + 1, wk, ⟨by omega, aN (d := []) (by omega) hal (dH (by omega) hal2)⟩, (by first|omega|(dsimp only;omega))⟩
    ·replace h6 := vB h6
     refine kC<|jB<|kx [(2, (jN 0))] [] (zM<|zZ) ?_
     refine jE ⟨_, (.tmp (d := (.val (.int .i64 (0)))) rfl .nil), ?_⟩
     rw [crd_0 he1 he2 he3 (dH (by omega) hal)]; rfl
theorem eZ : arrB Tryz.prog 59 = some (2, 3, 1) := by kernel_rfl
theorem cb57 : callB Tryz.prog 57 = true := by kernel_rfl
theorem cb62 : callB Tryz.prog 62 = true := by kernel_rfl
theorem cb64 : callB Tryz.prog 64 = true := by kernel_rfl
theorem pl153 : mT Tryz.prog 153 = some [(0, 1)] := by kernel_rfl
theorem aV : xH Tryz.prog 102 = some [.slice none 0 0] := by kernel_rfl
theorem ze153 : xH Tryz.prog 153 = some [.slice none 0 0] := by kernel_rfl
theorem zn153 : eC [.slice none 0 0] [.val (.slice none 0 0)] := by simp [eC, Value.oneCell']
theorem aX : eC [.slice none 0 0] [.sl 3 1 []] := by simp [eC, Value.oneCell']
theorem t_dsE (a : List Int) (b : List Int) (hc : cI [a, b] ≠ 0) (ha5 : a.length ≤ 5) (hb5 : b.length ≤ 5) : jT Tryz.prog 57 [(.sl 3 1 (List.map jI a)), (.sl 3 1 (List.map jI b))] (.tup [(.sl 83 7 (List.map jS [])), (.val (.int .i64 ((((cI [a, b]) : Nat) : Int))))]) := by
 refine jJ Tryz.func57 rfl cb57 rfl ?_
 show qR _ _ _ _ ⟨[(0, (vl 3 1 jI a)), (1, (vl 3 1 jI b))], []⟩
 refine jB<|kx [] [] (zE (mP 83 7)<|zM<|zZ) ?_
 refine jB<|jB<|kx [(6, (jN (cI [a, b])))] [] (zM<|zM<|zE (gN yK aV aX)<|zE (jZ (t_chk [a, b] (nK rfl) (nK rfl) (fun y hy => by simp only [List.mem_cons, List.not_mem_nil, or_false] at hy; rcases hy with rfl | rfl <;> omega)))<|zM<|zZ) ?_
 refine jB<|kx [(13, (vb true))] [] (zM<|zE (xL true nR (by exact bne_iff_ne.2 (by have hx := hc; omega)))<|zZ) ?_
 refine xD ?_
 refine jB<|kx [(4, (vl 83 7 jS [])), (5, (jN (cI [a, b])))] [] (zM<|zE (mP 83 7)<|zM<|zZ) ?_
 refine jE ⟨_, (.tmp (d := (.sl 83 7 (List.map jS []))) rfl (.tmp (d := (.val (.int .i64 ((((cI [a, b]) : Nat) : Int))))) rfl .nil)), ?_⟩
 rfl
theorem t_ds (a : List Int) (b : List Int) (hc : cI [a, b] = 0) (ha5 : a.length ≤ 5) (hb5 : b.length ≤ 5) : jT Tryz.prog 57 [(.sl 3 1 (List.map jI a)), (.sl 3 1 (List.map jI b))] (.tup [(.sl 83 7 (List.map jS (dstT a b))), (.val (.int .i64 (((0 : Nat) : Int))))]) := by
 have hk : CrOk [a, b] a.length := crd_ok hc (Nat.succ_pos _)
 have hlb : b.length = a.length := (hk.all b (by simp)).1
 have hn1 := hk.n1
 have hn3 := hk.n3
 let y2 := (vS [] a b a.length)
 let y1 := (ssT y2 (xB 0 a.length))
 refine jJ Tryz.func57 rfl cb57 rfl ?_
 show qR _ _ _ _ ⟨[(0, (vl 3 1 jI a)), (1, (vl 3 1 jI b))], []⟩
 refine jB<|kx [] [] (zE (mP 83 7)<|zM<|zZ) ?_
 refine jB<|jB<|kx [(6, (jN (cI [a, b])))] [] (zM<|zM<|zE (gN yK aV aX)<|zE (jZ (t_chk [a, b] (nK rfl) (nK rfl) (fun y hy => by simp only [List.mem_cons, List.not_mem_nil, or_false] at hy; rcases hy with rfl | rfl <;> omega)))<|zM<|zZ) ?_
 refine jB<|kx [(13, (vb false))] [] (zM<|zE (xL false nR (by exact bne_eq_false_iff_eq.2 (by rw [show (cI [a, b]) = 0 from hc] <;> rfl)))<|zZ) ?_
 refine kZ ?_
 refine jD<|jB<|kx [(7, (.ref 0 0))] [(0, some (bx (.agg [(.val (.slice none 0 0))])))] (zE (bS pl153 ze153 zn153)<|zN (xA 0)<|zM<|zZ) ?_
 refine jB<|fP 0 0 1 83 7 (cs := (bx (.agg [(.val (.slice none 0 0))]))) (h := ?_)
 refine kH (wk (l := [(0, (vl 3 1 jI a)), (1, (vl 3 1 jI b)), (7, (.ref 0 0))]) (b := [(0, some [(.own 1 83 7 0)]), (1, some (qQ jS []))])) ?_
 have bn1 : b.length = a.length := (by first | omega | (simp [qW, uN, uS, qS] <;> omega))
 have bn2 : a.length ≤ 64 := (by first | omega | (simp [qW, uN, uS, qS] <;> omega))
 have bn3 : (vS [] a b a.length).length ≤ 500 := (by first | omega | (simp [qW, uN, uS, qS] <;> omega))
 have bn4 : 1 ≤ (xB 0 a.length).length := (by first | omega | (simp [qW, uN, uS, qS] <;> omega))
 have bn5 : (xB 0 a.length).length ≤ 64 := (by first | omega | (simp [qW, uN, uS, qS] <;> omega))
 refine kf [] [(0, some [(.own 1 83 7 (y1.length))]), (1, some (qQ jS y1))] (zM<|zM<|zM<|zM<|zS (B2 := [(0, some [(.own 1 83 7 0)]), (1, some (qQ jS []))]) (B2' := [(0, some [(.own 1 83 7 (y2.length))]), (1, some (qQ jS y2))]) (M := 1000000) [0, 1] [0] (e_vec a b [] (by first | omega | (simp [qW, uN, uS, qS] <;> omega)) bn1 bn2) (.cons (by exact rfl) (by kernel_rfl) (.cons (by exact rfl) (qV _ _) .nil)) (.cons (by exact rfl) (by kernel_rfl) (.cons (by exact rfl) (qV _ _) .nil)) (by repeat first | exact .nil | refine .hid rfl ?_ | refine .map rfl ?_ | refine .dat rfl ?_ | refine .none rfl ?_ | refine .cells rfl rfl ?_)<|zS (B2 := [(0, some [(.own 1 83 7 (y2.length))]), (1, some (qQ jS y2))]) (B2' := [(0, some [(.own 1 83 7 (y1.length))]), (1, some (qQ jS y1))]) (M := 1000000) [0, 1] [0] (e_sqs (xB 0 a.length) y2 bn3 bn4 bn5) (.cons (by exact rfl) (by kernel_rfl) (.cons (by exact rfl) (qV _ _) .nil)) (.cons (by exact rfl) (by kernel_rfl) (.cons (by exact rfl) (qV _ _) .nil)) (by repeat first | exact .nil | refine .hid rfl ?_ | refine .map rfl ?_ | refine .dat rfl ?_ | refine .none rfl ?_ | refine .cells rfl rfl ?_)<|zF) ?_
 refine jB<|kH (cX (j := 0) (k := 1) (pre := []) (post := []) (es := List.map jS y1) rfl (by decide) rfl (zI _ _ (fun _ => rfl)) (uG _ _ rfl) (yW jS y1 (fun _ => rfl) rfl)) ?_
 refine kH (wk (l := [(7, (.ref 0 0))]) (b := [(0, some (bx (encMk (RMk.mk y1))))])) ?_
 refine kx [(4, (vl 83 7 jS y1)), (5, (jN 0))] [] (zM<|zE oNc<|zE (qD fo153_0)<|zR (uL sh23)<|zM<|zM<|zZ) ?_
 refine jE ⟨_, (.tmp (d := (.sl 83 7 (List.map jS (ssT (vS [] a b a.length) (xB 0 a.length))))) rfl (.tmp (d := (.val (.int .i64 (((0 : Nat) : Int))))) rfl .nil)), ?_⟩
 rfl
theorem t_csE (a : List Int) (b : List Int) (c : List Int) (hc : cI [a, b, c] ≠ 0) (ha5 : a.length ≤ 5) (hb5 : b.length ≤ 5) (hc5 : c.length ≤ 5) : jT Tryz.prog 62 [(.sl 3 1 (List.map jI a)), (.sl 3 1 (List.map jI b)), (.sl 3 1 (List.map jI c))] (.tup [(.sl 83 7 (List.map jS [])), (.val (.int .i64 ((((cI [a, b, c]) : Nat) : Int))))]) := by
 refine jJ Tryz.func62 rfl cb62 rfl ?_
 show qR _ _ _ _ ⟨[(0, (vl 3 1 jI a)), (1, (vl 3 1 jI b)), (2, (vl 3 1 jI c))], []⟩
 refine jB<|kx [] [] (zE (mP 83 7)<|zM<|zZ) ?_
 refine jB<|jB<|kx [(8, (jN (cI [a, b, c])))] [] (zM<|zM<|zM<|zE (gN yK aV aX)<|zE (jZ (t_chk [a, b, c] (nK rfl) (nK rfl) (fun y hy => by simp only [List.mem_cons, List.not_mem_nil, or_false] at hy; rcases hy with rfl | rfl | rfl <;> omega)))<|zM<|zZ) ?_
 refine jB<|kx [(19, (vb true))] [] (zM<|zE (xL true nR (by exact bne_iff_ne.2 (by have hx := hc; omega)))<|zZ) ?_
 refine xD ?_
 refine jB<|kx [(6, (vl 83 7 jS [])), (7, (jN (cI [a, b, c])))] [] (zM<|zE (mP 83 7)<|zM<|zZ) ?_
 refine jE ⟨_, (.tmp (d := (.sl 83 7 (List.map jS []))) rfl (.tmp (d := (.val (.int .i64 ((((cI [a, b, c]) : Nat) : Int))))) rfl .nil)), ?_⟩
 rfl
theorem t_cs (a : List Int) (b : List Int) (c : List Int) (hc : cI [a, b, c] = 0) (ha5 : a.length ≤ 5) (hb5 : b.length ≤ 5) (hc5 : c.length ≤ 5) : jT Tryz.prog 62 [(.sl 3 1 (List.map jI a)), (.sl 3 1 (List.map jI b)), (.sl 3 1 (List.map jI c))] (.tup [(.sl 83 7 (List.map jS (cosT a b c))), (.val (.int .i64 (((0 : Nat) : Int))))]) := by
 have hk : CrOk [a, b, c] a.length := crd_ok hc (Nat.succ_pos _)
 have hlb : b.length = a.length := (hk.all b (by simp)).1
 have hlc : c.length = a.length := (hk.all c (by simp)).1
 have hn1 := hk.n1
 have hn3 := hk.n3
 let y22 := (vS [] a b a.length)
 let y21 := (vS y22 a c a.length)
 let y20 := (xB y22.length a.length)
 let y19 := kW
 let y18 := (y21.length)
 let y17 := (spI y21 (xB 0 a.length) y20)
 let y16 := (spT y21 (xB 0 a.length) y20)
 let y15 := (y16.length)
 let y14 := ((y16.length : Nat) : Int)
 let y13 := (y16 ++ [kK.mk ((7 : Nat) : Int) y17 ((0 : Nat) : Int) y19])
 let y12 := (y13.length)
 let y11 := (ssI y13 (xB 0 a.length))
 let y10 := (ssT y13 (xB 0 a.length))
 let y9 := (y10.length)
 let y8 := (ssI y10 y20)
 let y7 := (ssT y10 y20)
 let y6 := (y7.length)
 let y5 := ((y7.length : Nat) : Int)
 let y4 := (y7 ++ [kK.mk ((4 : Nat) : Int) y11 y8 y19])
 let y3 := (y4.length)
 let y2 := (y4 ++ [kK.mk ((5 : Nat) : Int) y14 y5 y19])
 let y1 := (y2.length)
 refine jJ Tryz.func62 rfl cb62 rfl ?_
 show qR _ _ _ _ ⟨[(0, (vl 3 1 jI a)), (1, (vl 3 1 jI b)), (2, (vl 3 1 jI c))], []⟩
 refine jB<|kx [] [] (zE (mP 83 7)<|zM<|zZ) ?_
 refine jB<|jB<|kx [(8, (jN (cI [a, b, c])))] [] (zM<|zM<|zM<|zE (gN yK aV aX)<|zE (jZ (t_chk [a, b, c] (nK rfl) (nK rfl) (fun y hy => by simp only [List.mem_cons, List.not_mem_nil, or_false] at hy; rcases hy with rfl | rfl | rfl <;> omega)))<|zM<|zZ) ?_
 refine jB<|kx [(19, (vb false))] [] (zM<|zE (xL false nR (by exact bne_eq_false_iff_eq.2 (by rw [show (cI [a, b, c]) = 0 from hc] <;> rfl)))<|zZ) ?_
 refine kZ ?_
 refine jD<|jB<|kx [(9, (.ref 0 0))] [(0, some (bx (.agg [(.val (.slice none 0 0))])))] (zE (bS pl153 ze153 zn153)<|zN (xA 0)<|zM<|zZ) ?_
 refine jB<|fP 0 0 1 83 7 (cs := (bx (.agg [(.val (.slice none 0 0))]))) (h := ?_)
 refine kH (wk (l := [(0, (vl 3 1 jI a)), (1, (vl 3 1 jI b)), (2, (vl 3 1 jI c)), (9, (.ref 0 0))]) (b := [(0, some [(.own 1 83 7 0)]), (1, some (qQ jS []))])) ?_
 have bn1 : b.length = a.length := (by first | omega | (simp [qW, uN, uS, qS] <;> omega))
 have bn2 : a.length ≤ 64 := (by first | omega | (simp [qW, uN, uS, qS] <;> omega))
 have bn3 : (vS [] a b a.length).length ≤ 1000 := (by first | omega | (simp [qW, uN, uS, qS] <;> omega))
 have bn4 : c.length = a.length := (by first | omega | (simp [qW, uN, uS, qS] <;> omega))
 refine kf [(10, (vl 3 1 jI (xB 0 a.length))), (11, (vl 3 1 jI y20))] [(0, some [(.own 1 83 7 y18)]), (1, some (qQ jS y21))] (zM<|zM<|zM<|zS (B2 := [(0, some [(.own 1 83 7 0)]), (1, some (qQ jS []))]) (B2' := [(0, some [(.own 1 83 7 (y22.length))]), (1, some (qQ jS y22))]) (M := 1000000) [0, 1] [0] (e_vec a b [] (by first | omega | (simp [qW, uN, uS, qS] <;> omega)) bn1 bn2) (.cons (by exact rfl) (by kernel_rfl) (.cons (by exact rfl) (qV _ _) .nil)) (.cons (by exact rfl) (by kernel_rfl) (.cons (by exact rfl) (qV _ _) .nil)) (by repeat first | exact .nil | refine .hid rfl ?_ | refine .map rfl ?_ | refine .dat rfl ?_ | refine .none rfl ?_ | refine .cells rfl rfl ?_)<|zM<|zM<|zM<|zS (B2 := [(0, some [(.own 1 83 7 (y22.length))]), (1, some (qQ jS y22))]) (B2' := [(0, some [(.own 1 83 7 y18)]), (1, some (qQ jS y21))]) (M := 1000000) [0, 1] [0] (e_vec a c y22 bn3 bn4 bn2) (.cons (by exact rfl) (by kernel_rfl) (.cons (by exact rfl) (qV _ _) .nil)) (.cons (by exact rfl) (by kernel_rfl) (.cons (by exact rfl) (qV _ _) .nil)) (by repeat first | exact .nil | refine .hid rfl ?_ | refine .map rfl ?_ | refine .dat rfl ?_ | refine .none rfl ?_ | refine .cells rfl rfl ?_)<|zM<|zM<|zF) ?_
 refine jB ?_
 have bn5 : (vS (vS [] a b a.length) a c a.length).length ≤ 500 := (by first | omega | (simp [qW, uN, uS, qS] <;> omega))
 have bn6 : 1 ≤ (xB 0 a.length).length := (by first | omega | (simp [qW, uN, uS, qS] <;> omega))
 have bn7 : (xB 0 a.length).length ≤ 64 := (by first | omega | (simp [qW, uN, uS, qS] <;> omega))
 have bn8 : (xB (vS [] a b a.length).length a.length).length = (xB 0 a.length).length := (by first | omega | (simp [qW, uN, uS, qS] <;> omega))
 have bn9 : (spT (vS (vS [] a b a.length) a c a.length) (xB 0 a.length) (xB (vS [] a b a.length).length a.length)).length ≤ 1000000 := (by first | omega | (simp only [List.length_append, List.length_cons, List.length_nil, qW, uN, uS, qS] <;> omega))
 refine kf [(12, (jN y15))] [(0, some [(.own 1 83 7 y12)]), (1, some (qQ jS y13))] (zM<|zM<|zM<|zM<|zS (B2 := [(0, some [(.own 1 83 7 y18)]), (1, some (qQ jS y21))]) (B2' := [(0, some [(.own 1 83 7 y15)]), (1, some (qQ jS y16))]) (M := 1000000) [0, 1] [0] (e_pds (xB 0 a.length) y20 y21 bn5 bn6 bn7 bn8) (.cons (by exact rfl) (by kernel_rfl) (.cons (by exact rfl) (qV _ _) .nil)) (.cons (by exact rfl) (by kernel_rfl) (.cons (by exact rfl) (qV _ _) .nil)) (by repeat first | exact .nil | refine .hid rfl ?_ | refine .map rfl ?_ | refine .dat rfl ?_ | refine .none rfl ?_ | refine .cells rfl rfl ?_)<|zS (B2 := [(0, some [(.own 1 83 7 y15)]), (1, some (qQ jS y16))]) (B2' := [(0, some [(.own 1 83 7 y12)]), (1, some (qQ jS y13))]) (M := 1000000) [0, 1] [0] (dR ((7 : Nat) : Int) y17 ((0 : Nat) : Int) y16 bn9) (.cons (by exact rfl) (by kernel_rfl) (.cons (by exact rfl) (qV _ _) .nil)) (.cons (by exact rfl) (by kernel_rfl) (.cons (by exact rfl) (qV _ _) .nil)) (by repeat first | exact .nil | refine .hid rfl ?_ | refine .map rfl ?_ | refine .dat rfl ?_ | refine .none rfl ?_ | refine .cells rfl rfl ?_)<|zM<|zF) ?_
 refine jB ?_
 have bn10 : ((spT (vS (vS [] a b a.length) a c a.length) (xB 0 a.length) (xB (vS [] a b a.length).length a.length)) ++ [kK.mk ((7 : Nat) : Int) (spI (vS (vS [] a b a.length) a c a.length) (xB 0 a.length) (xB (vS [] a b a.length).length a.length)) ((0 : Nat) : Int) kW]).length ≤ 500 := (by first | omega | (simp [qW, uN, uS, qS] <;> omega))
 have bn11 : (ssT ((spT (vS (vS [] a b a.length) a c a.length) (xB 0 a.length) (xB (vS [] a b a.length).length a.length)) ++ [kK.mk ((7 : Nat) : Int) (spI (vS (vS [] a b a.length) a c a.length) (xB 0 a.length) (xB (vS [] a b a.length).length a.length)) ((0 : Nat) : Int) kW]) (xB 0 a.length)).length ≤ 500 := (by first | omega | (simp [qW, uN, uS, qS] <;> omega))
 have bn12 : 1 ≤ (xB (vS [] a b a.length).length a.length).length := (by first | omega | (simp [qW, uN, uS, qS] <;> omega))
 have bn13 : (xB (vS [] a b a.length).length a.length).length ≤ 64 := (by first | omega | (simp [qW, uN, uS, qS] <;> omega))
 have bn14 : (ssT (ssT ((spT (vS (vS [] a b a.length) a c a.length) (xB 0 a.length) (xB (vS [] a b a.length).length a.length)) ++ [kK.mk ((7 : Nat) : Int) (spI (vS (vS [] a b a.length) a c a.length) (xB 0 a.length) (xB (vS [] a b a.length).length a.length)) ((0 : Nat) : Int) kW]) (xB 0 a.length)) (xB (vS [] a b a.length).length a.length)).length ≤ 1000000 := (by first | omega | (simp only [List.length_append, List.length_cons, List.length_nil, qW, uN, uS, qS] <;> omega))
 have bn15 : ((ssT (ssT ((spT (vS (vS [] a b a.length) a c a.length) (xB 0 a.length) (xB (vS [] a b a.length).length a.length)) ++ [kK.mk ((7 : Nat) : Int) (spI (vS (vS [] a b a.length) a c a.length) (xB 0 a.length) (xB (vS [] a b a.length).length a.length)) ((0 : Nat) : Int) kW]) (xB 0 a.length)) (xB (vS [] a b a.length).length a.length)) ++ [kK.mk ((4 : Nat) : Int) (ssI ((spT (vS (vS [] a b a.length) a c a.length) (xB 0 a.length) (xB (vS [] a b a.length).length a.length)) ++ [kK.mk ((7 : Nat) : Int) (spI (vS (vS [] a b a.length) a c a.length) (xB 0 a.length) (xB (vS [] a b a.length).length a.length)) ((0 : Nat) : Int) kW]) (xB 0 a.length)) (ssI (ssT ((spT (vS (vS [] a b a.length) a c a.length) (xB 0 a.length) (xB (vS [] a b a.length).length a.length)) ++ [kK.mk ((7 : Nat) : Int) (spI (vS (vS [] a b a.length) a c a.length) (xB 0 a.length) (xB (vS [] a b a.length).length a.length)) ((0 : Nat) : Int) kW]) (xB 0 a.length)) (xB (vS [] a b a.length).length a.length)) kW]).length ≤ 1000000 := (by first | omega | (simp only [List.length_append, List.length_cons, List.length_nil, qW, uN, uS, qS] <;> omega))
 refine kf [] [(0, some [(.own 1 83 7 y1)]), (1, some (qQ jS y2))] (zM<|zM<|zM<|zM<|zM<|zS (B2 := [(0, some [(.own 1 83 7 y12)]), (1, some (qQ jS y13))]) (B2' := [(0, some [(.own 1 83 7 y9)]), (1, some (qQ jS y10))]) (M := 1000000) [0, 1] [0] (e_sqs (xB 0 a.length) y13 bn10 bn6 bn7) (.cons (by exact rfl) (by kernel_rfl) (.cons (by exact rfl) (qV _ _) .nil)) (.cons (by exact rfl) (by kernel_rfl) (.cons (by exact rfl) (qV _ _) .nil)) (by repeat first | exact .nil | refine .hid rfl ?_ | refine .map rfl ?_ | refine .dat rfl ?_ | refine .none rfl ?_ | refine .cells rfl rfl ?_)<|zM<|zM<|zS (B2 := [(0, some [(.own 1 83 7 y9)]), (1, some (qQ jS y10))]) (B2' := [(0, some [(.own 1 83 7 y6)]), (1, some (qQ jS y7))]) (M := 1000000) [0, 1] [0] (e_sqs y20 y10 bn11 bn12 bn13) (.cons (by exact rfl) (by kernel_rfl) (.cons (by exact rfl) (qV _ _) .nil)) (.cons (by exact rfl) (by kernel_rfl) (.cons (by exact rfl) (qV _ _) .nil)) (by repeat first | exact .nil | refine .hid rfl ?_ | refine .map rfl ?_ | refine .dat rfl ?_ | refine .none rfl ?_ | refine .cells rfl rfl ?_)<|zS (B2 := [(0, some [(.own 1 83 7 y6)]), (1, some (qQ jS y7))]) (B2' := [(0, some [(.own 1 83 7 y3)]), (1, some (qQ jS y4))]) (M := 1000000) [0, 1] [0] (dR ((4 : Nat) : Int) y11 y8 y7 bn14) (.cons (by exact rfl) (by kernel_rfl) (.cons (by exact rfl) (qV _ _) .nil)) (.cons (by exact rfl) (by kernel_rfl) (.cons (by exact rfl) (qV _ _) .nil)) (by repeat first | exact .nil | refine .hid rfl ?_ | refine .map rfl ?_ | refine .dat rfl ?_ | refine .none rfl ?_ | refine .cells rfl rfl ?_)<|zS (B2 := [(0, some [(.own 1 83 7 y3)]), (1, some (qQ jS y4))]) (B2' := [(0, some [(.own 1 83 7 y1)]), (1, some (qQ jS y2))]) (M := 1000000) [0, 1] [0] (dR ((5 : Nat) : Int) y14 y5 y4 bn15) (.cons (by exact rfl) (by kernel_rfl) (.cons (by exact rfl) (qV _ _) .nil)) (.cons (by exact rfl) (by kernel_rfl) (.cons (by exact rfl) (qV _ _) .nil)) (by repeat first | exact .nil | refine .hid rfl ?_ | refine .map rfl ?_ | refine .dat rfl ?_ | refine .none rfl ?_ | refine .cells rfl rfl ?_)<|zF) ?_
 refine jB<|kH (cX (j := 0) (k := 1) (pre := []) (post := []) (es := List.map jS y2) rfl (by decide) rfl (zI _ _ (fun _ => rfl)) (uG _ _ rfl) (yW jS y2 (fun _ => rfl) rfl)) ?_
 refine kH (wk (l := [(9, (.ref 0 0))]) (b := [(0, some (bx (encMk (RMk.mk y2))))])) ?_
 refine kx [(6, (vl 83 7 jS y2)), (7, (jN 0))] [] (zM<|zE oNc<|zE (qD fo153_0)<|zR (uL sh23)<|zM<|zM<|zZ) ?_
 refine jE ⟨_, (.tmp (d := (.sl 83 7 (List.map jS (((ssT (ssT ((spT (vS (vS [] a b a.length) a c a.length) (xB 0 a.length) (xB (vS [] a b a.length).length a.length)) ++ [kK.mk ((7 : Nat) : Int) (spI (vS (vS [] a b a.length) a c a.length) (xB 0 a.length) (xB (vS [] a b a.length).length a.length)) ((0 : Nat) : Int) kW]) (xB 0 a.length)) (xB (vS [] a b a.length).length a.length)) ++ [kK.mk ((4 : Nat) : Int) (ssI ((spT (vS (vS [] a b a.length) a c a.length) (xB 0 a.length) (xB (vS [] a b a.length).length a.length)) ++ [kK.mk ((7 : Nat) : Int) (spI (vS (vS [] a b a.length) a c a.length) (xB 0 a.length) (xB (vS [] a b a.length).length a.length)) ((0 : Nat) : Int) kW]) (xB 0 a.length)) (ssI (ssT ((spT (vS (vS [] a b a.length) a c a.length) (xB 0 a.length) (xB (vS [] a b a.length).length a.length)) ++ [kK.mk ((7 : Nat) : Int) (spI (vS (vS [] a b a.length) a c a.length) (xB 0 a.length) (xB (vS [] a b a.length).length a.length)) ((0 : Nat) : Int) kW]) (xB 0 a.length)) (xB (vS [] a b a.length).length a.length)) kW]) ++ [kK.mk ((5 : Nat) : Int) (((spT (vS (vS [] a b a.length) a c a.length) (xB 0 a.length) (xB (vS [] a b a.length).length a.length)).length : Nat) : Int) (((ssT (ssT ((spT (vS (vS [] a b a.length) a c a.length) (xB 0 a.length) (xB (vS [] a b a.length).length a.length)) ++ [kK.mk ((7 : Nat) : Int) (spI (vS (vS [] a b a.length) a c a.length) (xB 0 a.length) (xB (vS [] a b a.length).length a.length)) ((0 : Nat) : Int) kW]) (xB 0 a.length)) (xB (vS [] a b a.length).length a.length)).length : Nat) : Int) kW])))) rfl (.tmp (d := (.val (.int .i64 (((0 : Nat) : Int))))) rfl .nil)), ?_⟩
 rfl
theorem t_arE (a : A2 Int) (b : A2 Int) (c : A2 Int) (hc : cI [[a.a0, a.a1], [b.a0, b.a1], [c.a0, c.a1]] ≠ 0) : jT Tryz.prog 64 [(vN a), (vN b), (vN c)] (.tup [(.sl 83 7 (List.map jS [])), (.val (.int .i64 ((((cI [[a.a0, a.a1], [b.a0, b.a1], [c.a0, c.a1]]) : Nat) : Int))))]) := by
 refine jJ Tryz.func64 rfl cb64 rfl ?_
 show qR _ _ _ _ ⟨[(0, (.d (vN a))), (1, (.d (vN b))), (2, (.d (vN c)))], []⟩
 refine jB<|kx [(3, (.ref 0 0)), (4, (.ref 1 0)), (5, (.ref 2 0))] [(0, some (bx (vN a))), (1, some (bx (vN b))), (2, some (bx (vN c)))] (zN (xA 0)<|zN (xA 1)<|zN (xA 2)<|zE (mP 83 7)<|zM<|zZ) ?_
 refine jB<|jB<|kH (gH (t := 3) (k := 0) (o := 0) (T := 3) (cs := (kA.cells (vN a))) rfl rfl) ?_
 refine kH (gH (t := 4) (k := 1) (o := 0) (T := 3) (cs := (kA.cells (vN b))) rfl rfl) ?_
 refine kH (gH (t := 5) (k := 2) (o := 0) (T := 3) (cs := (kA.cells (vN c))) rfl rfl) ?_
 refine kd [(8, (jN (cI [[a.a0, a.a1], [b.a0, b.a1], [c.a0, c.a1]])))] [] mo (wE (yL (es := List.map jI [a.a0, a.a1]) (by exact rfl) eZ (by exact rfl) (by kernel_rfl) (by kernel_rfl) (by kernel_rfl) (by kernel_rfl) (by kernel_rfl) (by kernel_rfl))<|wE (yL (es := List.map jI [b.a0, b.a1]) (by exact rfl) eZ (by exact rfl) (by kernel_rfl) (by kernel_rfl) (by kernel_rfl) (by kernel_rfl) (by kernel_rfl) (by kernel_rfl))<|wE (yL (es := List.map jI [c.a0, c.a1]) (by exact rfl) eZ (by exact rfl) (by kernel_rfl) (by kernel_rfl) (by kernel_rfl) (by kernel_rfl) (by kernel_rfl) (by kernel_rfl))<|wE (gN yK aV aX)<|wE (jZ (t_chk [[a.a0, a.a1], [b.a0, b.a1], [c.a0, c.a1]] (nK rfl) (nK rfl) (fun y hy => by simp only [List.mem_cons, List.not_mem_nil, or_false] at hy; rcases hy with rfl | rfl | rfl <;> exact (nK rfl))))<|wM<|wZ) ?_
 refine jB<|kx [(18, (vb true))] [] (zM<|zE (xL true nR (by exact bne_iff_ne.2 (by have hx := hc; omega)))<|zZ) ?_
 refine xD ?_
 refine jB<|kx [(6, (vl 83 7 jS [])), (7, (jN (cI [[a.a0, a.a1], [b.a0, b.a1], [c.a0, c.a1]])))] [] (zM<|zE (mP 83 7)<|zM<|zZ) ?_
 refine jE ⟨_, (.tmp (d := (.sl 83 7 (List.map jS []))) rfl (.tmp (d := (.val (.int .i64 ((((cI [[a.a0, a.a1], [b.a0, b.a1], [c.a0, c.a1]]) : Nat) : Int))))) rfl .nil)), ?_⟩
 rfl
theorem t_ar (a : A2 Int) (b : A2 Int) (c : A2 Int) (hc : cI [[a.a0, a.a1], [b.a0, b.a1], [c.a0, c.a1]] = 0) : jT Tryz.prog 64 [(vN a), (vN b), (vN c)] (.tup [(.sl 83 7 (List.map jS (areT [a.a0, a.a1] [b.a0, b.a1] [c.a0, c.a1]))), (.val (.int .i64 (((0 : Nat) : Int))))]) := by
 let y16 := (xB 0 [a.a0, a.a1].length)
 let y15 := kW
 let y14 := (vS [] [a.a0, a.a1] [b.a0, b.a1] [a.a0, a.a1].length)
 let y13 := (xB y14.length [a.a0, a.a1].length)
 let y12 := (y13.getD 0 0)
 let y11 := (y13.getD 1 0)
 let y10 := (vS y14 [a.a0, a.a1] [c.a0, c.a1] [a.a0, a.a1].length)
 let y9 := (y10.length)
 let y8 := ((y10.length : Nat) : Int)
 let y7 := (y10 ++ [kK.mk ((4 : Nat) : Int) (y16.getD 0 0) y11 y15])
 let y6 := (y7.length)
 let y5 := ((y7.length : Nat) : Int)
 let y4 := (y7 ++ [kK.mk ((4 : Nat) : Int) (y16.getD 1 0) y12 y15])
 let y3 := (y4.length)
 let y2 := (y4 ++ [kK.mk ((3 : Nat) : Int) y8 y5 y15])
 let y1 := (y2.length)
 refine jJ Tryz.func64 rfl cb64 rfl ?_
 show qR _ _ _ _ ⟨[(0, (.d (vN a))), (1, (.d (vN b))), (2, (.d (vN c)))], []⟩
 refine jB<|kx [(3, (.ref 0 0)), (4, (.ref 1 0)), (5, (.ref 2 0))] [(0, some (bx (vN a))), (1, some (bx (vN b))), (2, some (bx (vN c)))] (zN (xA 0)<|zN (xA 1)<|zN (xA 2)<|zE (mP 83 7)<|zM<|zZ) ?_
 refine jB<|jB<|kH (gH (t := 3) (k := 0) (o := 0) (T := 3) (cs := (kA.cells (vN a))) rfl rfl) ?_
 refine kH (gH (t := 4) (k := 1) (o := 0) (T := 3) (cs := (kA.cells (vN b))) rfl rfl) ?_
 refine kH (gH (t := 5) (k := 2) (o := 0) (T := 3) (cs := (kA.cells (vN c))) rfl rfl) ?_
 refine kd [(8, (jN (cI [[a.a0, a.a1], [b.a0, b.a1], [c.a0, c.a1]])))] [] mo (wE (yL (es := List.map jI [a.a0, a.a1]) (by exact rfl) eZ (by exact rfl) (by kernel_rfl) (by kernel_rfl) (by kernel_rfl) (by kernel_rfl) (by kernel_rfl) (by kernel_rfl))<|wE (yL (es := List.map jI [b.a0, b.a1]) (by exact rfl) eZ (by exact rfl) (by kernel_rfl) (by kernel_rfl) (by kernel_rfl) (by kernel_rfl) (by kernel_rfl) (by kernel_rfl))<|wE (yL (es := List.map jI [c.a0, c.a1]) (by exact rfl) eZ (by exact rfl) (by kernel_rfl) (by kernel_rfl) (by kernel_rfl) (by kernel_rfl) (by kernel_rfl) (by kernel_rfl))<|wE (gN yK aV aX)<|wE (jZ (t_chk [[a.a0, a.a1], [b.a0, b.a1], [c.a0, c.a1]] (nK rfl) (nK rfl) (fun y hy => by simp only [List.mem_cons, List.not_mem_nil, or_false] at hy; rcases hy with rfl | rfl | rfl <;> exact (nK rfl))))<|wM<|wZ) ?_
 refine jB<|kx [(18, (vb false))] [] (zM<|zE (xL false nR (by exact bne_eq_false_iff_eq.2 (by rw [show (cI [[a.a0, a.a1], [b.a0, b.a1], [c.a0, c.a1]]) = 0 from hc] <;> rfl)))<|zZ) ?_
 refine kZ ?_
 refine jD<|jB<|kx [(9, (.ref 3 0))] [(3, some (bx (.agg [(.val (.slice none 0 0))])))] (zE (bS pl153 ze153 zn153)<|zN (xA 3)<|zM<|zZ) ?_
 refine jB<|fP 3 0 4 83 7 (cs := (bx (.agg [(.val (.slice none 0 0))]))) (h := ?_)
 refine kH (wk (l := [(3, (.d (.cptr 3 (kA.cells (vN a)) 0))), (4, (.d (.cptr 3 (kA.cells (vN b)) 0))), (5, (.d (.cptr 3 (kA.cells (vN c)) 0))), (9, (.ref 3 0))]) (b := [(3, some [(.own 4 83 7 0)]), (4, some (qQ jS []))])) ?_
 have bn1 : [b.a0, b.a1].length = [a.a0, a.a1].length := (by first | omega | (simp [qW, uN, uS, qS] <;> omega))
 have bn2 : [a.a0, a.a1].length ≤ 64 := (by first | omega | (simp [qW, uN, uS, qS] <;> omega))
 have bn3 : (vS [] [a.a0, a.a1] [b.a0, b.a1] [a.a0, a.a1].length).length ≤ 1000 := (by first | omega | (simp [qW, uN, uS, qS] <;> omega))
 have bn4 : [c.a0, c.a1].length = [a.a0, a.a1].length := (by first | omega | (simp [qW, uN, uS, qS] <;> omega))
 refine kd [(10, (vl 3 1 jI y16)), (11, (vl 3 1 jI y13))] [(3, some [(.own 4 83 7 y9)]), (4, some (qQ jS y10))] mo (wM<|wE (yL (es := List.map jI [a.a0, a.a1]) (by exact rfl) eZ (by exact rfl) (by kernel_rfl) (by kernel_rfl) (by kernel_rfl) (by kernel_rfl) (by kernel_rfl) (by kernel_rfl))<|wE (yL (es := List.map jI [b.a0, b.a1]) (by exact rfl) eZ (by exact rfl) (by kernel_rfl) (by kernel_rfl) (by kernel_rfl) (by kernel_rfl) (by kernel_rfl) (by kernel_rfl))<|wS [3, 4] [4] (vl 3 1 jI y16) [(.ref 3 0), (vl 3 1 jI [a.a0, a.a1]), (vl 3 1 jI [b.a0, b.a1])] [(3, some [(.own 4 83 7 0)]), (4, some (qQ jS []))] [(3, some [(.own 4 83 7 (y14.length))]), (4, some (qQ jS y14))] (e_vec [a.a0, a.a1] [b.a0, b.a1] [] (by first | omega | (simp [qW, uN, uS, qS] <;> omega)) bn1 bn2) (.cons rfl (by kernel_rfl) (.cons rfl (yB _ _) .nil)) (.cons rfl (by kernel_rfl) (.cons rfl (yB _ _) .nil)) (by repeat first | exact .nil | refine .hid rfl ?_ | refine .none ?_ | refine .dat ?_ | refine .map ?_ | refine .cells (by kernel_rfl) ?_) (by repeat first | exact .nil | refine .dat ?_ | refine .map ?_ | refine .cells (by kernel_rfl) ?_)<|wM<|wE (yL (es := List.map jI [a.a0, a.a1]) (by exact rfl) eZ (by exact rfl) (by kernel_rfl) (by kernel_rfl) (by kernel_rfl) (by kernel_rfl) (by kernel_rfl) (by kernel_rfl))<|wE (yL (es := List.map jI [c.a0, c.a1]) (by exact rfl) eZ (by exact rfl) (by kernel_rfl) (by kernel_rfl) (by kernel_rfl) (by kernel_rfl) (by kernel_rfl) (by kernel_rfl))<|wS [3, 4] [4] (vl 3 1 jI y13) [(.ref 3 0), (vl 3 1 jI [a.a0, a.a1]), (vl 3 1 jI [c.a0, c.a1])] [(3, some [(.own 4 83 7 (y14.length))]), (4, some (qQ jS y14))] [(3, some [(.own 4 83 7 y9)]), (4, some (qQ jS y10))] (e_vec [a.a0, a.a1] [c.a0, c.a1] y14 bn3 bn4 bn2) (.cons rfl (by kernel_rfl) (.cons rfl (yB _ _) .nil)) (.cons rfl (by kernel_rfl) (.cons rfl (yB _ _) .nil)) (by repeat first | exact .nil | refine .hid rfl ?_ | refine .none ?_ | refine .dat ?_ | refine .map ?_ | refine .cells (by kernel_rfl) ?_) (by repeat first | exact .nil | refine .dat ?_ | refine .map ?_ | refine .cells (by kernel_rfl) ?_)<|wM<|wM<|wZ) ?_
 refine jB ?_
 have bn5 : (vS (vS [] [a.a0, a.a1] [b.a0, b.a1] [a.a0, a.a1].length) [a.a0, a.a1] [c.a0, c.a1] [a.a0, a.a1].length).length ≤ 1000000 := (by first | omega | (simp only [List.length_append, List.length_cons, List.length_nil, qW, uN, uS, qS] <;> omega))
 have bn6 : ((vS (vS [] [a.a0, a.a1] [b.a0, b.a1] [a.a0, a.a1].length) [a.a0, a.a1] [c.a0, c.a1] [a.a0, a.a1].length) ++ [kK.mk ((4 : Nat) : Int) ((xB 0 [a.a0, a.a1].length).getD 0 0) ((xB (vS [] [a.a0, a.a1] [b.a0, b.a1] [a.a0, a.a1].length).length [a.a0, a.a1].length).getD 1 0) kW]).length ≤ 1000000 := (by first | omega | (simp only [List.length_append, List.length_cons, List.length_nil, qW, uN, uS, qS] <;> omega))
 have bn7 : (((vS (vS [] [a.a0, a.a1] [b.a0, b.a1] [a.a0, a.a1].length) [a.a0, a.a1] [c.a0, c.a1] [a.a0, a.a1].length) ++ [kK.mk ((4 : Nat) : Int) ((xB 0 [a.a0, a.a1].length).getD 0 0) ((xB (vS [] [a.a0, a.a1] [b.a0, b.a1] [a.a0, a.a1].length).length [a.a0, a.a1].length).getD 1 0) kW]) ++ [kK.mk ((4 : Nat) : Int) ((xB 0 [a.a0, a.a1].length).getD 1 0) ((xB (vS [] [a.a0, a.a1] [b.a0, b.a1] [a.a0, a.a1].length).length [a.a0, a.a1].length).getD 0 0) kW]).length ≤ 1000000 := (by first | omega | (simp only [List.length_append, List.length_cons, List.length_nil, qW, uN, uS, qS] <;> omega))
 refine kd [] [(3, some [(.own 4 83 7 y1)]), (4, some (qQ jS y2))] mo (wM<|wM<|wM<|wE (zU qP 0 (0 : Int) (L := y16) (hj := by first | rfl | (show _ < (xB _ 2).length; exact vcI_lt (by decide))) (h1 := by first | rfl | (show _ < (xB _ 2).length; exact vcI_lt (by decide))))<|wE (xI yV)<|wM<|wE (zU qP 1 (0 : Int) (L := y13) (hj := by first | rfl | (show _ < (xB _ 2).length; exact vcI_lt (by decide))) (h1 := by first | rfl | (show _ < (xB _ 2).length; exact vcI_lt (by decide))))<|wE (xI yV)<|wS [3, 4] [4] (jN y9) [(.ref 3 0), (jN 4), (vi (y16.getD 0 0)), (vi y11)] [(3, some [(.own 4 83 7 y9)]), (4, some (qQ jS y10))] [(3, some [(.own 4 83 7 y6)]), (4, some (qQ jS y7))] (dR ((4 : Nat) : Int) (y16.getD 0 0) y11 y10 bn5) (.cons rfl (by kernel_rfl) (.cons rfl (yB _ _) .nil)) (.cons rfl (by kernel_rfl) (.cons rfl (yB _ _) .nil)) (by repeat first | exact .nil | refine .hid rfl ?_ | refine .none ?_ | refine .dat ?_ | refine .map ?_ | refine .cells (by kernel_rfl) ?_) (by repeat first | exact .nil | refine .dat ?_ | refine .map ?_ | refine .cells (by kernel_rfl) ?_)<|wM<|wM<|wE (zU qP 1 (0 : Int) (L := y16) (hj := by first | rfl | (show _ < (xB _ 2).length; exact vcI_lt (by decide))) (h1 := by first | rfl | (show _ < (xB _ 2).length; exact vcI_lt (by decide))))<|wE (xI yV)<|wM<|wE (zU qP 0 (0 : Int) (L := y13) (hj := by first | rfl | (show _ < (xB _ 2).length; exact vcI_lt (by decide))) (h1 := by first | rfl | (show _ < (xB _ 2).length; exact vcI_lt (by decide))))<|wE (xI yV)<|wS [3, 4] [4] (jN y6) [(.ref 3 0), (jN 4), (vi (y16.getD 1 0)), (vi y12)] [(3, some [(.own 4 83 7 y6)]), (4, some (qQ jS y7))] [(3, some [(.own 4 83 7 y3)]), (4, some (qQ jS y4))] (dR ((4 : Nat) : Int) (y16.getD 1 0) y12 y7 bn6) (.cons rfl (by kernel_rfl) (.cons rfl (yB _ _) .nil)) (.cons rfl (by kernel_rfl) (.cons rfl (yB _ _) .nil)) (by repeat first | exact .nil | refine .hid rfl ?_ | refine .none ?_ | refine .dat ?_ | refine .map ?_ | refine .cells (by kernel_rfl) ?_) (by repeat first | exact .nil | refine .dat ?_ | refine .map ?_ | refine .cells (by kernel_rfl) ?_)<|wS [3, 4] [4] (jN y3) [(.ref 3 0), (jN 3), (jN y9), (jN y6)] [(3, some [(.own 4 83 7 y3)]), (4, some (qQ jS y4))] [(3, some [(.own 4 83 7 y1)]), (4, some (qQ jS y2))] (dR ((3 : Nat) : Int) y8 y5 y4 bn7) (.cons rfl (by kernel_rfl) (.cons rfl (yB _ _) .nil)) (.cons rfl (by kernel_rfl) (.cons rfl (yB _ _) .nil)) (by repeat first | exact .nil | refine .hid rfl ?_ | refine .none ?_ | refine .dat ?_ | refine .map ?_ | refine .cells (by kernel_rfl) ?_) (by repeat first | exact .nil | refine .dat ?_ | refine .map ?_ | refine .cells (by kernel_rfl) ?_)<|wZ) ?_
 refine jB<|kH (cX (j := 3) (k := 4) (pre := []) (post := []) (es := List.map jS y2) rfl (by decide) rfl (zI _ _ (fun _ => rfl)) (uG _ _ rfl) (yW jS y2 (fun _ => rfl) rfl)) ?_
 refine kH (wk (l := [(9, (.ref 3 0))]) (b := [(3, some (bx (encMk (RMk.mk y2))))])) ?_
 refine kx [(6, (vl 83 7 jS y2)), (7, (jN 0))] [] (zM<|zE oNc<|zE (qD fo153_0)<|zR (uL sh23)<|zM<|zM<|zZ) ?_
 refine jE ⟨_, (.tmp (d := (.sl 83 7 (List.map jS ((((vS (vS [] [a.a0, a.a1] [b.a0, b.a1] [a.a0, a.a1].length) [a.a0, a.a1] [c.a0, c.a1] [a.a0, a.a1].length) ++ [kK.mk ((4 : Nat) : Int) ((xB 0 [a.a0, a.a1].length).getD 0 0) ((xB (vS [] [a.a0, a.a1] [b.a0, b.a1] [a.a0, a.a1].length).length [a.a0, a.a1].length).getD 1 0) kW]) ++ [kK.mk ((4 : Nat) : Int) ((xB 0 [a.a0, a.a1].length).getD 1 0) ((xB (vS [] [a.a0, a.a1] [b.a0, b.a1] [a.a0, a.a1].length).length [a.a0, a.a1].length).getD 0 0) kW]) ++ [kK.mk ((3 : Nat) : Int) (((vS (vS [] [a.a0, a.a1] [b.a0, b.a1] [a.a0, a.a1].length) [a.a0, a.a1] [c.a0, c.a1] [a.a0, a.a1].length).length : Nat) : Int) ((((vS (vS [] [a.a0, a.a1] [b.a0, b.a1] [a.a0, a.a1].length) [a.a0, a.a1] [c.a0, c.a1] [a.a0, a.a1].length) ++ [kK.mk ((4 : Nat) : Int) ((xB 0 [a.a0, a.a1].length).getD 0 0) ((xB (vS [] [a.a0, a.a1] [b.a0, b.a1] [a.a0, a.a1].length).length [a.a0, a.a1].length).getD 1 0) kW]).length : Nat) : Int) kW])))) rfl (.tmp (d := (.val (.int .i64 (((0 : Nat) : Int))))) rfl .nil)), ?_⟩
 rfl
end Go.Proofs.YtnajallgoaiahaaGreatDoor
