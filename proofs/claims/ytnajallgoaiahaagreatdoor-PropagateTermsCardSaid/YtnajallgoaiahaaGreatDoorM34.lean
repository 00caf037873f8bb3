/- Part 34 of a proof: rules, plain facts, and functions walked. -/
import Derived.Test.YtnajallgoaiahaaGreatDoorM32
import Derived.Test.YtnajallgoaiahaaGreatDoorM33
import Derived.Test.YtnajallgoaiahaaGreatDoorM20
import Derived.Test.YtnajallgoaiahaaGreatDoorM11
namespace Go.Proofs.YtnajallgoaiahaaGreatDoor
open Go.Fid
set_option maxRecDepth 4000
set_option linter.unusedVariables false
set_option linter.unusedSimpArgs false
theorem cb13 : callB Tryz.prog 13 = true := by kernel_rfl
theorem cb68 : callB Tryz.prog 68 = true := by kernel_rfl
theorem cb71 : callB Tryz.prog 71 = true := by kernel_rfl
theorem cb74 : callB Tryz.prog 74 = true := by kernel_rfl
theorem p_pts (xs : List Rat) (hx : ∀ q ∈ xs, QL q 1048576) (hxb : xs.length ≤ 1000000) : jT Tryz.prog 68 [(.sl 45 4 (List.map jH (List.map jM xs)))] (.sl 61 8 (List.map jQ (List.map uR (List.map dX xs)))) := by
 refine jJ Tryz.func68 rfl cb68 rfl ?_
 show qR _ _ _ _ ⟨[(0, (vl 45 4 jH (List.map jM xs)))], []⟩
 refine jB<|kx [] [] (zE (mP 61 8)<|zZ) ?_
 refine jB<|kx [(3, (.own 0 61 8 0))] [(0, some (qQ jQ []))] (zO 0 61 8<|zZ) ?_
 refine jB<|jB<|kx [(6, (vl 45 4 jH (List.map jM xs))), (7, (jN xs.length)), (8, (jN 0))] [] (zM<|zE (oLn qN xs.length)<|zM<|zZ) ?_
 refine jG<|kI (α := Nat × List kR) (fun (i, o) => ⟨[(3, (.own 0 61 8 o.length)), (6, (vl 45 4 jH (List.map jM xs))), (7, (jN xs.length)), (8, (jN i))], [(0, some (qQ jQ o))]⟩) (fun (i, o) => i ≤ xs.length ∧ o = (xs.take i).map (fun q => uR (dX q))) (fun (i, o) => xs.length - i) (0, []) wk ⟨Nat.zero_le _, by simp⟩ ?_
 rintro ⟨i, o⟩ ⟨hi, ho⟩
 have hol : o.length = i := by rw [ho, List.length_map, List.length_take]; omega
 refine jB<|kx [(9, (vb (decide (((i : Nat) : Int) < ((xs.length : Nat) : Int)))))] [] (zE vZ<|zZ) ?_
 refine jB<|jF rfl (fun h1 => ?_) (fun h1 => ?_)
 ·replace h1 := uH h1
  refine jD<|jB<|jG<|jB<|kx [(5, (.ref 1 0))] [(1, some (bx (jH (jM (xs.getD i 0)))))] (zE (oXm qN jM i 0)<|zE (dM jO)<|zH (uU 1 qA qO)<|zT (qM jO)<|zZ) ?_
  refine kf [(3, (.own 0 61 8 ((o ++ [(kR.mk (jM (xs.getD i 0)) (jM (xs.getD i 0)))]).length)))] [(0, some (qQ jQ (o ++ [(kR.mk (jM (xs.getD i 0)) (jM (xs.getD i 0)))])))] (zM<|zR (kP jO)<|zR (kP jO)<|zE (bS pl61 xY yC)<|zE (gN fH xY yC)<|zAS jQ o [(kR.mk (jM (xs.getD i 0)) (jM (xs.getD i 0)))] rfl fH xY by61<|zM<|zF) ?_
  refine kx [(8, (jN (i + 1)))] [] (zE (vG (i + 1))<|zM<|zZ) ?_
  exact ⟨(i + 1, o ++ [uR (dX (xs.getD i 0))]), wk, ⟨by omega, by rw [ho]; exact bC (f := fun q => uR (dX q)) (by omega)⟩, (by first|omega|(dsimp only;omega))⟩
 ·replace h1 := vB h1
  refine kC<|jB<|kx [(2, (.own 0 61 8 o.length))] [] (zM<|zM<|zZ) ?_
  refine kH (vK (t := 2) (k := 0) (es := List.map jQ o) rfl rfl (zI _ _ (fun _ => rfl)) (uG _ _ rfl) (yW jQ o (fun _ => rfl) rfl)) ?_
  refine jE ⟨_, (.tmp (d := (.sl 61 8 (List.map jQ o))) rfl .nil), ?_⟩
  rw [ho, show i = xs.length by omega, List.take_length, show List.map (fun q => uR (dX q)) xs = List.map uR (List.map dX xs) from (by rw [List.map_map]; rfl)]; rfl
theorem p_val (bv : List R2) (hbx : ∀ x ∈ bv, GL 1048576 x) (hbl : bv.length ≤ 1000000) : jT Tryz.prog 71 [(.sl 61 8 (List.map jQ (List.map uR bv)))] (.val (.bool (true))) := by
 refine jJ Tryz.func71 rfl cb71 rfl ?_
 show qR _ _ _ _ ⟨[(0, (vl 61 8 jQ (List.map uR bv)))], []⟩
 refine jB<|kx [] [] (zM<|zZ) ?_
 refine jB<|jB<|kx [(5, (vl 61 8 jQ (List.map uR bv))), (6, (jN bv.length)), (7, (jN 0))] [] (zM<|zE (oLn fH bv.length)<|zM<|zZ) ?_
 refine jG<|kI (α := Nat) (fun i => ⟨[(5, (vl 61 8 jQ (List.map uR bv))), (6, (jN bv.length)), (7, (jN i))], []⟩) (fun i => i ≤ bv.length) (fun i => bv.length - i) 0 wk (Nat.zero_le _) ?_
 rintro i hi
 refine jB<|kx [(8, (vb (decide (((i : Nat) : Int) < ((bv.length : Nat) : Int)))))] [] (zE vZ<|zZ) ?_
 refine jB<|jF rfl (fun h1 => ?_) (fun h1 => ?_)
 ·replace h1 := uH h1
  refine jD<|jB<|jG<|jB<|kx [(4, (.ref 0 0))] [(0, some (bx (jQ (uR (bv.getD i z2)))))] (zE (oXm fH uR i z2)<|zE (dM uA)<|zN (uU 0 xY yC)<|zT (qM uA)<|zZ) ?_
  refine jB<|kx [(13, (vb false))] [] (zR (kP uA)<|zE (jZ (by have h := i_valid (uR (bv.getD i z2)) (cW (⟨uW (jP (jX (aC hbx (by decide) i).1) (by decide : 1048576 ≤ 1048576)), uW (jP (jX (aC hbx (by decide) i).2.1) (by decide : 1048576 ≤ 1048576))⟩) (by decide)); rw [show xR (uR (bv.getD i z2)) = true from nO (aC hbx (by decide) i).2.2] at h; exact h))<|zE fC<|zZ) ?_
  refine kZ ?_
  refine jD<|kx [(7, (jN (i + 1)))] [] (zE (vG (i + 1))<|zM<|zZ) ?_
  exact ⟨i + 1, wk, (by omega), (by first|omega|(dsimp only;omega))⟩
 ·replace h1 := vB h1
  refine kC<|jB<|kx [(2, (vb true))] [] (zM<|zZ) ?_
  refine jE ⟨_, (.tmp (d := (.val (.bool (true)))) rfl .nil), ?_⟩
  rfl
theorem p_fit (m : List (List kD)) (hm : nD 1048576 m) (n : Nat) (hr : dP m m.length (m.getD 0 []).length) : jT Tryz.prog 74 [(.sl 24 1 (List.map jR m)), (.val (.int .i64 (((n : Nat) : Int))))] (.val (.int .i64 ((((fitC m n) : Nat) : Int)))) := by
 have hmb := hr.r64
 have hm1 := hr.r1
 have hm0 := hr.c64
 let y1 := kW
 refine jJ Tryz.func74 rfl cb74 rfl ?_
 show qR _ _ _ _ ⟨[(0, (vl 24 1 jR m)), (1, (jN n))], []⟩
 refine jB<|kx [] [] (zM<|zZ) ?_
 refine jB<|jB<|kx [(18, (vb ((((m.length : Nat) : Int) != ((n : Nat) : Int)) || ((((m.getD 0 []).length : Nat) : Int) != ((n : Nat) : Int)))))] [] ?_ ?_
 ·refine zM<|zE (vX eB)<|zM<|zE nR<|zE (oV (vb (((m.length : Nat) : Int) != ((n : Nat) : Int))) (qH (by kernel_rfl)))<|?_
  rcases hb1 : (((m.length : Nat) : Int) != ((n : Nat) : Int)) with _ | _
  ·replace hb1 := bne_eq_false_iff_eq.1 hb1
   exact zM<|zE (zU eB 0 ([] : List (kD)))<|zE (xI sh24)<|zE (vX qN (L := (m.getD 0 [])))<|zM<|zE nR<|zE aO<|zZ
  ·replace hb1 := bne_iff_ne.1 hb1
   exact zK<|zK<|zK<|zK<|zK<|zK<|zE hZ<|zZ
 refine jF rfl (fun h2 => ?_) (fun h2 => ?_)
 ·refine jB<|kx [(4, (jN 4))] [] (zM<|zZ) ?_
  refine jE ⟨_, (.tmp (d := (.val (.int .i64 (4)))) rfl .nil), ?_⟩
  rw [fit_1 h2]; rfl
 ·have hs := fit_0 h2
  refine jD<|jB<|jB<|kx [(20, (jN m.length)), (21, (jN 0))] [] (zM<|zE (vX eB)<|zM<|zZ) ?_
  refine jG<|kI (α := Nat) (fun i => ⟨[(0, (vl 24 1 jR m)), (20, (jN m.length)), (21, (jN i))], []⟩) (fun i => i ≤ m.length ∧ symI m i) (fun i => m.length - i) 0 wk ⟨Nat.zero_le _, symI_0 m⟩ ?_
  rintro i ⟨hi, hsy⟩
  refine jB<|kx [(22, (vb (decide (((i : Nat) : Int) < ((m.length : Nat) : Int)))))] [] (zE vZ<|zZ) ?_
  refine jB<|jF rfl (fun h3 => ?_) (fun h3 => ?_)
  ·replace h3 := uH h3
   have hri := (hr.at (show i < m.length by omega)).1
   refine jD<|jB<|jG<|jB<|kx [(5, (jN i))] [] (zM<|zM<|zZ) ?_
   refine jB<|kx [(24, (jN i)), (25, (jN 0))] [] (zM<|zM<|zZ) ?_
   refine jG<|kI (α := Nat) (fun j => ⟨[(0, (vl 24 1 jR m)), (5, (jN i)), (20, (jN m.length)), (21, (jN i)), (24, (jN i)), (25, (jN j))], []⟩) (fun j => j ≤ i ∧ ∀ b, b < j → eqM m i b = true) (fun j => i - j) 0 wk ⟨Nat.zero_le _, fun b hb => by omega⟩ ?_
   rintro j ⟨hj, he⟩
   refine jB<|kx [(26, (vb (decide (((j : Nat) : Int) < ((i : Nat) : Int)))))] [] (zE vZ<|zZ) ?_
   refine jB<|jF rfl (fun h4 => ?_) (fun h4 => ?_)
   ·replace h4 := uH h4
    have hrj := (hr.at (show j < m.length by omega)).1
    refine jD<|jB<|jG<|jB<|kx [(6, (jN j))] [] (zM<|zM<|zZ) ?_
    refine jB<|kd [(43, (vb ((yJ (qB ((m.getD i []).getD j y1)) (qB ((m.getD j []).getD i y1))) != 0)))] [] mo (wM<|wM<|wE (zU eB i ([] : List (kD)))<|wE (xI sh24)<|wM<|wE (zU qN j y1 (L := (m.getD i [])))<|wE (dM jO)<|wM<|wM<|wE (zU eB j ([] : List (kD)))<|wE (xI sh24)<|wM<|wE (zU qN i y1 (L := (m.getD j [])))<|wE (dM jO)<|wE (jZ (mM ((m.getD i []).getD j y1) ((m.getD j []).getD i y1) (qB ((m.getD i []).getD j y1)) (qB ((m.getD j []).getD i y1)) (jP (xS (xT (d := []) hm (show i < m.length by omega)).1 (show j < (m.getD i []).length by omega)) (by decide)) (jP (xS (xT (d := []) hm (show j < m.length by omega)).1 (show i < (m.getD j []).length by omega)) (by decide))))<|wE nR<|wZ) ?_
    refine jF rfl (fun h5 => ?_) (fun h5 => ?_)
    ·replace h5 := bne_iff_ne.1 h5
     refine jB<|kx [(4, (jN 11))] [] (zM<|zZ) ?_
     refine jE ⟨_, (.tmp (d := (.val (.int .i64 (11)))) rfl .nil), ?_⟩
     rw [fit_11 hs (sym_no (i := i) (j := j) (by omega) (by omega) (eqm_f h5))]; rfl
    ·replace h5 := bne_eq_false_iff_eq.1 h5
     refine jD<|kx [(25, (jN (j + 1)))] [] (zE (vG (j + 1))<|zM<|zZ) ?_
     exact ⟨j + 1, wk, ⟨by omega, eqm_s he h5⟩, (by first|omega|(dsimp only;omega))⟩
   ·replace h4 := vB h4
    have hsy2 := symI_s hsy (fun b hb => he b (by omega))
    refine kC<|kx [(21, (jN (i + 1)))] [] (zE (vG (i + 1))<|zM<|zZ) ?_
    exact ⟨i + 1, wk, ⟨by omega, hsy2⟩, (by first|omega|(dsimp only;omega))⟩
  ·replace h3 := vB h3
   refine kC<|jB<|kx [(4, (jN 0))] [] (zM<|zZ) ?_
   refine jE ⟨_, (.tmp (d := (.val (.int .i64 (0)))) rfl .nil), ?_⟩
   obtain rfl : i = m.length := by omega
   rw [fit_ok hs (sym_yes hsy)]; rfl
theorem p_grd (t : List kK) (ht : TnsOk 1048576 t) (xs : List Rat) (hx : ∀ q ∈ xs, QL q 1048576) (hr : JRunP (List.map dX xs) t) (hxb : xs.length ≤ 1000000) : jT Tryz.prog 13 [(.sl 83 7 (List.map jS t)), (.sl 45 4 (List.map jH (List.map jM xs)))] (.tup [(.sl 45 4 (List.map jH (gF xs t))), (.val (.int .i64 (((0 : Nat) : Int))))]) := by
 have hgl : (gX (List.map dX xs) t).g.length = xs.length := by rw [hr.run.last.2.2, List.length_map]
 refine jJ Tryz.func13 rfl cb13 rfl ?_
 show qR _ _ _ _ ⟨[(0, (vl 83 7 jS t)), (1, (vl 45 4 jH (List.map jM xs)))], []⟩
 refine jB<|kx [] [] (zE (mP 45 4)<|zM<|zZ) ?_
 refine jB<|kx [(6, (.ref 0 0)), (7, (jN 0))] [(0, some (bx (jY (uJ (gX (List.map dX xs) t)))))] (zM<|zM<|zE (jZ (p_pts xs hx hxb))<|zE (jZ (j_jets t ht (List.map dX xs) (pts_gl hx) hr))<|zM<|zE vP<|zE vP<|zN (uU 0 ze95 zo95)<|zT (qM sh95)<|zM<|zZ) ?_
 refine jB<|jB<|kx [(19, (vb false))] [] (zM<|zE (xL false nR)<|zZ) ?_
 refine kZ ?_
 refine jD<|jB<|kx [(8, (.own 1 45 4 0))] [(1, some (qQ jH []))] (zO 1 45 4<|zZ) ?_
 refine jB<|jB<|kx [(22, (vl 61 8 jQ (List.map uR ((gX (List.map dX xs) t).g)))), (23, (jN (((gX (List.map dX xs) t).g).length))), (24, (jN 0))] [] (zE (qD fo95_1)<|zR (oQr (.sl 61 8 (List.map jQ (List.map uR ((gX (List.map dX xs) t).g)))) (.sl 61 8 (List.map jQ (List.map uR ((gX (List.map dX xs) t).g)))) (uL sh86) (by exact rfl))<|zE (oLn fH (((gX (List.map dX xs) t).g).length))<|zM<|zZ) ?_
 refine jG<|kI (α := Nat × List kD) (fun (i, o) => ⟨[(8, (.own 1 45 4 o.length)), (22, (vl 61 8 jQ (List.map uR ((gX (List.map dX xs) t).g)))), (23, (jN (((gX (List.map dX xs) t).g).length))), (24, (jN i))], [(1, some (qQ jH o))]⟩) (fun (i, o) => i ≤ (gX (List.map dX xs) t).g.length ∧ o = ((gX (List.map dX xs) t).g.take i).map (fun y => jM y.1)) (fun (i, o) => (gX (List.map dX xs) t).g.length - i) (0, []) wk ⟨Nat.zero_le _, by simp⟩ ?_
 rintro ⟨i, o⟩ ⟨hi, ho⟩
 have hol : o.length = i := by rw [ho, List.length_map, List.length_take]; omega
 refine jB<|kx [(25, (vb (decide (((i : Nat) : Int) < ((((gX (List.map dX xs) t).g).length : Nat) : Int)))))] [] (zE vZ<|zZ) ?_
 refine jB<|jF rfl (fun h1 => ?_) (fun h1 => ?_)
 ·replace h1 := uH h1
  refine jD<|jB<|jG<|jB<|kx [(10, (.ref 2 0))] [(2, some (bx (jQ (uR (((gX (List.map dX xs) t).g).getD i z2)))))] (zE (oXm fH uR i z2)<|zE (dM uA)<|zH (uU 2 xY yC)<|zT (qM uA)<|zZ) ?_
  refine kf [(8, (.own 1 45 4 ((o ++ [(jM ((((gX (List.map dX xs) t).g).getD i z2).1))]).length)))] [(1, some (qQ jH (o ++ [(jM ((((gX (List.map dX xs) t).g).getD i z2).1))])))] (zM<|zE (qD gS)<|zR (kP jO)<|zE (gN qN qA qO)<|zAS jH o [(jM ((((gX (List.map dX xs) t).g).getD i z2).1))] rfl qN qA fF<|zM<|zF) ?_
  refine kx [(24, (jN (i + 1)))] [] (zE (vG (i + 1))<|zM<|zZ) ?_
  exact ⟨(i + 1, o ++ [jM ((gX (List.map dX xs) t).g.getD i z2).1]), wk, ⟨by omega, by rw [ho]; exact gr_step (by omega)⟩, (by first|omega|(dsimp only;omega))⟩
 ·replace h1 := vB h1
  refine kC<|jB<|kx [(4, (.own 1 45 4 o.length)), (5, (jN 0))] [] (zM<|zM<|zM<|zZ) ?_
  refine kH (vK (t := 4) (k := 1) (es := List.map jH o) rfl rfl (zI _ _ (fun _ => rfl)) (uG _ _ rfl) (yW jH o (fun _ => rfl) rfl)) ?_
  refine jE ⟨_, (.tmp (d := (.sl 45 4 (List.map jH o))) rfl (.tmp (d := (.val (.int .i64 (((0 : Nat) : Int))))) rfl .nil)), ?_⟩
  rw [ho, show i = (gX (List.map dX xs) t).g.length by omega, List.take_length]; rfl
theorem by24 : xW Tryz.prog 24 = some 24 := by kernel_rfl
theorem cb18 : callB Tryz.prog 18 = true := by kernel_rfl
theorem cb22 : callB Tryz.prog 22 = true := by kernel_rfl
theorem el32 : uZ Tryz.prog 32 = some (23, 1) := by kernel_rfl
theorem el33 : uZ Tryz.prog 33 = some (24, 1) := by kernel_rfl
theorem ze23 : xH Tryz.prog 23 = some [.slice none 0 0] := by kernel_rfl
theorem ze24 : xH Tryz.prog 24 = some [.slice none 0 0] := by kernel_rfl
theorem zo23 : eC [.slice none 0 0] [.sl 83 7 []] := by simp [eC, Value.oneCell']
theorem zo24 : eC [.slice none 0 0] [.sl 45 4 []] := by simp [eC, Value.oneCell']
theorem p_tab (ts : List (List kK)) (hts : ∀ t ∈ ts, TnsOk 1048576 t) (xs : List Rat) (hx : ∀ q ∈ xs, QL q 1048576) (q : List (List kD)) (hq : nD 1048576 q) (hjs : ∀ t ∈ ts, JRunP (List.map dX xs) t) (hr : dP q q.length xs.length) (hf : fitC q xs.length = 0) (hxq : xs.length = q.length) (h1 : 1 ≤ ts.length) (h64 : ts.length ≤ 64) : jT Tryz.prog 18 [(.sl 23 1 (List.map cN ts)), (.sl 45 4 (List.map jH (List.map jM xs))), (.sl 24 1 (List.map jR q))] (.tup [(.sl 24 1 (List.map jR (tabR q (List.map (gF xs) ts)))), (.val (.int .i64 (((0 : Nat) : Int))))]) := by
 have hx64 : xs.length ≤ 64 := hr.c64
 have hqm := hr.r64
 have hgo := grs_ok (runs_of hjs) h64
 have hgl : (List.map (gF xs) ts).length = ts.length := List.length_map _
 have hc0 := rect_chk hr
 have hr0 := rect_0 hr
 have hxn : ((List.map jM xs).length) = xs.length := List.length_map _
 have hgx : (List.map dX xs).length = xs.length := List.length_map _
 refine jJ Tryz.func18 rfl cb18 rfl ?_
 show qR _ _ _ _ ⟨[(0, (vl 23 1 cN ts)), (1, (vl 45 4 jH (List.map jM xs))), (2, (vl 24 1 jR q))], []⟩
 refine jB<|kx [] [] (zE (mP 24 1)<|zM<|zZ) ?_
 refine jB<|jB<|kx [(31, (vb false))] [] (zM<|zE (jZ (p_pts xs hx (by omega)))<|zE (jZ (p_val (List.map dX xs) (pts_gl hx) (by omega)))<|zE fC<|zM<|zM<|zE (jZ (m_chk q hq))<|zE (xL false nR (by exact bne_eq_false_iff_eq.2 (by rw [show (mchk q) = 0 from hc0] <;> rfl)))<|zE yM<|zZ) ?_
 refine kZ ?_
 refine jD<|jB<|jB<|kx [(34, (vb (((ts.length : Nat) : Int) == ((0 : Nat) : Int))))] [] (zM<|zE (vX el32)<|zE gA<|zZ) ?_
 refine jF rfl (fun h1 => ?_) (fun h1 => ?_)
 ·replace h1 := eq_of_beq h1
  exfalso; omega
 ·replace h1 := ne_of_beq_false h1
  refine jD<|jB<|jB<|kx [(37, (vb (decide (((64 : Nat) : Int) < ((ts.length : Nat) : Int)))))] [] (zM<|zE (vX el32)<|zE mO<|zZ) ?_
  refine jF rfl (fun h2 => ?_) (fun h2 => ?_)
  ·replace h2 := uH h2
   exfalso; omega
  ·replace h2 := vB h2
   refine jD<|jB<|jB<|kx [(38, (vl 23 1 cN ts)), (39, (jN ts.length)), (40, (jN 0))] [] (zM<|zE (vX el32)<|zM<|zZ) ?_
   refine jG<|kI (α := Nat) (fun i => ⟨[(0, (vl 23 1 cN ts)), (1, (vl 45 4 jH (List.map jM xs))), (2, (vl 24 1 jR q)), (38, (vl 23 1 cN ts)), (39, (jN ts.length)), (40, (jN i))], []⟩) (fun i => i ≤ ts.length) (fun i => ts.length - i) 0 wk (Nat.zero_le _) ?_
   rintro i hi
   refine jB<|kx [(41, (vb (decide (((i : Nat) : Int) < ((ts.length : Nat) : Int)))))] [] (zE vZ<|zZ) ?_
   refine jB<|jF rfl (fun h3 => ?_) (fun h3 => ?_)
   ·replace h3 := uH h3
    refine jD<|jB<|jG<|jB<|kx [(9, (vl 83 7 jS (ts.getD i [])))] [] (zE (zU el32 i ([] : List (kK)))<|zE (xI sh23)<|zM<|zZ) ?_
    refine jB<|kx [(10, (jN (eY ((xs.length : Nat) : Int) (ts.getD i []))))] [] (zM<|zM<|zE (oLn qN xs.length)<|zE (jZ (j_chk (ts.getD i []) (tms_at hts i) ((xs.length : Nat) : Int)))<|zM<|zZ) ?_
    refine jB<|kx [(49, (vb false))] [] (zM<|zE (xL false nR (by exact bne_eq_false_iff_eq.2 (by rw [show (eY ((xs.length : Nat) : Int) (ts.getD i [])) = 0 from (tms_c0 (runs_of hjs) (show i < ts.length by omega))] <;> rfl)))<|zZ) ?_
    refine kZ ?_
    refine jD<|kx [(40, (jN (i + 1)))] [] (zE (vG (i + 1))<|zM<|zZ) ?_
    exact ⟨i + 1, wk, (by omega), (by first|omega|(dsimp only;omega))⟩
   ·replace h3 := vB h3
    refine kC<|jB<|jB<|kx [(11, (jN (fitC q xs.length)))] [] (zM<|zM<|zE (oLn qN xs.length)<|zE (jZ (p_fit q hq xs.length hr0))<|zM<|zZ) ?_
    refine jB<|kx [(57, (vb false))] [] (zM<|zE (xL false nR (by exact bne_eq_false_iff_eq.2 (by rw [show (fitC q xs.length) = 0 from hf] <;> rfl)))<|zZ) ?_
    refine kZ ?_
    refine jD<|jB<|kx [(12, (.own 0 24 1 0))] [(0, some (bm jR []))] (zO 0 24 1<|zZ) ?_
    refine jB<|jB<|kx [(59, (vl 23 1 cN ts)), (60, (jN ts.length)), (61, (jN 0))] [] (zM<|zE (vX el32)<|zM<|zZ) ?_
    refine jG<|kI (α := Nat × List (List kD)) (fun (i, o) => ⟨[(1, (vl 45 4 jH (List.map jM xs))), (2, (vl 24 1 jR q)), (12, (.own 0 24 1 o.length)), (59, (vl 23 1 cN ts)), (60, (jN ts.length)), (61, (jN i))], [(0, some (bm jR o))]⟩) (fun (i, o) => i ≤ ts.length ∧ o = (ts.take i).map (gF xs)) (fun (i, o) => ts.length - i) (0, []) wk ⟨Nat.zero_le _, by simp⟩ ?_
    rintro ⟨i, o⟩ ⟨hi, ho⟩
    have hol : o.length = i := by rw [ho, List.length_map, List.length_take]; omega
    refine jB<|kx [(62, (vb (decide (((i : Nat) : Int) < ((ts.length : Nat) : Int)))))] [] (zE vZ<|zZ) ?_
    refine jB<|jF rfl (fun h4 => ?_) (fun h4 => ?_)
    ·replace h4 := uH h4
     refine jD<|jB<|jG<|jB<|kx [(14, (vl 83 7 jS (ts.getD i [])))] [] (zE (zU el32 i ([] : List (kK)))<|zE (xI sh23)<|zM<|zZ) ?_
     refine jB<|kx [(15, (vl 45 4 jH (gF xs (ts.getD i [])))), (16, (jN 0))] [] (zM<|zM<|zE (jZ (p_grd (ts.getD i []) (tms_at hts i) xs hx (mem_at hjs (show i < ts.length by omega)) (by omega)))<|zM<|zE vP<|zE vP<|zM<|zM<|zZ) ?_
     refine jB<|jB<|kx [(72, (vb false))] [] (zM<|zE (xL false nR)<|zZ) ?_
     refine kZ ?_
     refine jD<|kf [(12, (.own 0 24 1 ((o ++ [(gF xs (ts.getD i []))]).length)))] [(0, some (bm jR (o ++ [(gF xs (ts.getD i []))])))] (zM<|zM<|zE (gN el33 ze24 zo24)<|zA jR o [(gF xs (ts.getD i []))] rfl el33 ze24 by24<|zM<|zF) ?_
     refine kx [(61, (jN (i + 1)))] [] (zE (vG (i + 1))<|zM<|zZ) ?_
     exact ⟨(i + 1, o ++ [gF xs (ts.getD i [])]), wk, ⟨by omega, by rw [ho]; exact bC (by omega)⟩, (by first|omega|(dsimp only;omega))⟩
    ·replace h4 := vB h4
     have hgs : o = (List.map (gF xs) ts) := by rw [ho, show i = ts.length by omega, List.take_length]
     refine kC<|jB<|kx [(17, (.own 1 24 1 0))] [(1, some (bm jR []))] (zOh 1 24 1<|zZ) ?_
     refine jB<|jB<|kH (vK (t := 12) (k := 0) (es := List.map jR o) rfl rfl (uI _ _ (fun _ => rfl)) (uG _ _ rfl) (vE _ _ (fun _ => rfl) rfl)) ?_
     refine kx [(79, (vl 24 1 jR (List.map (gF xs) ts))), (80, (jN ((List.map (gF xs) ts).length))), (81, (jN 0))] [] (zE (oQd (.sl 24 1 (List.map jR o)) (.sl 24 1 (List.map jR (List.map (gF xs) ts))) (oV (vl 24 1 jR o) (qH (by kernel_rfl))) (by exact (by rw [hgs])))<|zE (vX el33 (L := (List.map (gF xs) ts)))<|zM<|zZ) ?_
     refine jG<|kI (α := Nat × List (List kD)) (fun (i, u) => ⟨[(2, (vl 24 1 jR q)), (12, (vl 24 1 jR o)), (17, (.own 1 24 1 u.length)), (79, (vl 24 1 jR (List.map (gF xs) ts))), (80, (jN ((List.map (gF xs) ts).length))), (81, (jN i))], [(1, some (bm jR u))]⟩) (fun (i, u) => i ≤ (List.map (gF xs) ts).length ∧ u = ((List.map (gF xs) ts).take i).map (fun a => (List.map (gF xs) ts).map fun b => jM (covR q a b))) (fun (i, u) => (List.map (gF xs) ts).length - i) (0, []) wk ⟨Nat.zero_le _, by simp⟩ ?_
     rintro ⟨i, u⟩ ⟨hi2, hu⟩
     have hul : u.length = i := by rw [hu, List.length_map, List.length_take]; omega
     refine jB<|kx [(82, (vb (decide (((i : Nat) : Int) < (((List.map (gF xs) ts).length : Nat) : Int)))))] [] (zE vZ<|zZ) ?_
     refine jB<|jF rfl (fun h5 => ?_) (fun h5 => ?_)
     ·replace h5 := uH h5
      obtain ⟨hli0, hvi⟩ := grs_at (runs_of hjs) (show i < (List.map (gF xs) ts).length by omega)
      have hli := hli0.trans hxq
      refine jD<|jB<|jG<|jB<|kx [(19, (vl 45 4 jH ((List.map (gF xs) ts).getD i [])))] [] (zE (zU el33 i ([] : List (kD)) (L := (List.map (gF xs) ts)))<|zE (xI sh24)<|zM<|zZ) ?_
      refine jB<|kx [(20, (.own 2 45 4 0))] [(2, some (qQ jH []))] (zOh 2 45 4<|zZ) ?_
      refine jB<|jB<|kx [(85, (vl 24 1 jR (List.map (gF xs) ts))), (86, (jN ((List.map (gF xs) ts).length))), (87, (jN 0))] [] (zE (oQd (.sl 24 1 (List.map jR o)) (.sl 24 1 (List.map jR (List.map (gF xs) ts))) (oV (vl 24 1 jR o) (qH (by kernel_rfl))) (by exact (by rw [hgs])))<|zE (vX el33 (L := (List.map (gF xs) ts)))<|zM<|zZ) ?_
      refine jG<|kI (α := Nat × List kD) (fun (j, v) => ⟨[(2, (vl 24 1 jR q)), (12, (vl 24 1 jR o)), (17, (.own 1 24 1 u.length)), (19, (vl 45 4 jH ((List.map (gF xs) ts).getD i []))), (20, (.own 2 45 4 v.length)), (79, (vl 24 1 jR (List.map (gF xs) ts))), (80, (jN ((List.map (gF xs) ts).length))), (81, (jN i)), (85, (vl 24 1 jR (List.map (gF xs) ts))), (86, (jN ((List.map (gF xs) ts).length))), (87, (jN j))], [(1, some (bm jR u)), (2, some (qQ jH v))]⟩) (fun (j, v) => j ≤ (List.map (gF xs) ts).length ∧ v = ((List.map (gF xs) ts).take j).map (fun b => jM (covR q ((List.map (gF xs) ts).getD i []) b))) (fun (j, v) => (List.map (gF xs) ts).length - j) (0, []) wk ⟨Nat.zero_le _, by simp⟩ ?_
      rintro ⟨j, v⟩ ⟨hj2, hv⟩
      have hvl : v.length = j := by rw [hv, List.length_map, List.length_take]; omega
      refine jB<|kx [(88, (vb (decide (((j : Nat) : Int) < (((List.map (gF xs) ts).length : Nat) : Int)))))] [] (zE vZ<|zZ) ?_
      refine jB<|jF rfl (fun h6 => ?_) (fun h6 => ?_)
      ·replace h6 := uH h6
       obtain ⟨hlj0, hvj⟩ := grs_at (runs_of hjs) (show j < (List.map (gF xs) ts).length by omega)
       have hlj := hlj0.trans hxq
       have hrj : dP q q.length ((List.map (gF xs) ts).getD j []).length := by rw [hlj0]; exact hr
       refine jD<|jB<|jG<|jB<|kx [(22, (vl 45 4 jH ((List.map (gF xs) ts).getD j [])))] [] (zE (zU el33 j ([] : List (kD)) (L := (List.map (gF xs) ts)))<|zE (xI sh24)<|zM<|zZ) ?_
       refine kf [(20, (.own 2 45 4 ((v ++ [(jM (covR q ((List.map (gF xs) ts).getD i []) ((List.map (gF xs) ts).getD j [])))]).length)))] [(2, some (qQ jH (v ++ [(jM (covR q ((List.map (gF xs) ts).getD i []) ((List.map (gF xs) ts).getD j [])))])))] (zM<|zM<|zM<|zM<|zE (jZ (m_cov q hq ((List.map (gF xs) ts).getD i []) (xT (d := []) hgo (show i < (List.map (gF xs) ts).length by omega)) ((List.map (gF xs) ts).getD j []) (xT (d := []) hgo (show j < (List.map (gF xs) ts).length by omega)) hrj hvj hli hlj))<|zE (gN qN qA qO)<|zAS jH v [(jM (covR q ((List.map (gF xs) ts).getD i []) ((List.map (gF xs) ts).getD j [])))] rfl qN qA fF<|zM<|zF) ?_
       refine kx [(87, (jN (j + 1)))] [] (zE (vG (j + 1))<|zM<|zZ) ?_
       exact ⟨(j + 1, v ++ [jM (covR q ((List.map (gF xs) ts).getD i []) ((List.map (gF xs) ts).getD j []))]), wk, ⟨by omega, by rw [hv]; exact bC (f := fun b => jM (covR q ((List.map (gF xs) ts).getD i []) b)) (by omega)⟩, (by first|omega|(dsimp only;omega))⟩
      ·replace h6 := vB h6
       refine kC<|kH (vK (t := 20) (k := 2) (es := List.map jH v) rfl rfl (zI _ _ (fun _ => rfl)) (uG _ _ rfl) (yW jH v (fun _ => rfl) rfl)) ?_
       refine kf [(17, (.own 1 24 1 ((u ++ [v]).length)))] [(1, some (bm jR (u ++ [v])))] (zM<|zM<|zE (gN eB ze24 zo24)<|zA jR u [v] rfl eB ze24 by24<|zM<|zF) ?_
       refine kx [(81, (jN (i + 1)))] [] (zE (vG (i + 1))<|zM<|zZ) ?_
       exact ⟨(i + 1, u ++ [v]), wk, ⟨by omega, by rw [hu, hv, show j = (List.map (gF xs) ts).length by omega, List.take_length]; exact bC (f := fun a => (List.map (gF xs) ts).map fun b => jM (covR q a b)) (by omega)⟩, (by first|omega|(dsimp only;omega))⟩
     ·replace h5 := vB h5
      refine kC<|jB<|kx [(6, (.own 1 24 1 u.length)), (7, (jN 0))] [] (zM<|zM<|zM<|zZ) ?_
      refine kH (vK (t := 6) (k := 1) (es := List.map jR u) rfl rfl (uI _ _ (fun _ => rfl)) (uG _ _ rfl) (vE _ _ (fun _ => rfl) rfl)) ?_
      refine jE ⟨_, (.tmp (d := (.sl 24 1 (List.map jR u))) rfl (.tmp (d := (.val (.int .i64 (((0 : Nat) : Int))))) rfl .nil)), ?_⟩
      rw [hu, show i = (List.map (gF xs) ts).length by omega, List.take_length]; rfl
theorem p_var (t : List kK) (ht : TnsOk 1048576 t) (xs : List Rat) (hx : ∀ q ∈ xs, QL q 1048576) (q : List (List kD)) (hq : nD 1048576 q) (hj : JRunP (List.map dX xs) t) (hr : dP q q.length xs.length) (hf : fitC q xs.length = 0) (hxq : xs.length = q.length) : jT Tryz.prog 22 [(.sl 83 7 (List.map jS t)), (.sl 45 4 (List.map jH (List.map jM xs))), (.sl 24 1 (List.map jR q))] (.tup [(jH (jM (covR q (gF xs t) (gF xs t)))), (.val (.int .i64 (((0 : Nat) : Int))))]) := by
 have hx64 : xs.length ≤ 64 := hr.c64
 have hjs : ∀ u ∈ [t], JRunP (List.map dX xs) u := one_of hj
 have ht1 : (tabR q (List.map (gF xs) [t])).length = 1 := rfl
 have ht2 : ((tabR q (List.map (gF xs) [t])).getD 0 []).length = 1 := rfl
 refine jJ Tryz.func22 rfl cb22 rfl ?_
 show qR _ _ _ _ ⟨[(0, (vl 83 7 jS t)), (1, (vl 45 4 jH (List.map jM xs))), (2, (vl 24 1 jR q))], []⟩
 refine jB<|kx [(6, (.ref 0 0))] [(0, some (bx (jH kW)))] (zN (uU 0 qA qO)<|zM<|zZ) ?_
 refine jB<|kx [(8, (vl 24 1 jR (tabR q (List.map (gF xs) [t])))), (9, (jN 0))] [] (zM<|zE (gN el32 ze23 zo23)<|zM<|zM<|zE (jZ (p_tab [t] (tms_one ht) xs hx q hq hjs hr hf hxq (Nat.le_refl 1) (nK rfl)))<|zM<|zE vP<|zE vP<|zM<|zM<|zZ) ?_
 refine jB<|jB<|kx [(19, (vb false))] [] (zM<|zE (xL false nR)<|zZ) ?_
 refine kZ ?_
 refine jD<|jB<|kx [(7, (jN 0))] [(0, some (bx (jH (((tabR q (List.map (gF xs) [t])).getD 0 []).getD 0 kW))))] (zM<|zE (zU eB 0 ([] : List (kD)) (L := (tabR q (List.map (gF xs) [t]))))<|zE (xI sh24)<|zE (zU qN 0 kW (L := ((tabR q (List.map (gF xs) [t])).getD 0 [])))<|zE (dM jO)<|zT (qM jO)<|zM<|zZ) ?_
 refine jE ⟨_, (kU (cs := (bx (jH (((tabR q (List.map (gF xs) [t])).getD 0 []).getD 0 kW)))) (d := (jH (((tabR q (List.map (gF xs) [t])).getD 0 []).getD 0 kW))) rfl rfl jO rfl rfl (.tmp (d := (.val (.int .i64 (((0 : Nat) : Int))))) rfl .nil)), ?_⟩
 rfl
theorem cb89 : callB Tryz.prog 89 = true := by kernel_rfl
theorem cb149 : callB Tryz.prog 149 = true := by kernel_rfl
theorem i_makeO (x : kD) (p : Rat) (hx : mF x p 17179869184) (y : kD) (q : Rat) (hy : mF y q 17179869184) (hv : (kN x && kN y) = true) (hc : p ≤ q) : jT Tryz.prog 149 [(jH x), (jH y)] (.tup [(jQ (kR.mk x y)), (.val (.int .i64 (0)))]) := by
 refine jJ Tryz.func149 rfl cb149 rfl ?_
 show qR _ _ _ _ ⟨[(0, (.d (jH x))), (1, (.d (jH y)))], []⟩
 refine jB<|kx [(2, (.ref 0 0)), (3, (.ref 1 0)), (4, (.ref 2 0))] [(0, some (bx (jH x))), (1, some (bx (jH y))), (2, some (bx (jQ (kR.mk kW kW))))] (zN (xA 0)<|zN (xA 1)<|zN (uU 2 xY yC)<|zM<|zZ) ?_
 refine jB<|jB<|kx [(13, (vb (!(kN x) || !(kN y))))] [] ?_ ?_
 ·refine zR (kP jO)<|zE (jZ (mB x p hx))<|zE fC<|zE (oV (vb (!(kN x))) (qH (by kernel_rfl)))<|?_
  rcases hb1 : (!(kN x)) with _ | _
  ·exact zR (kP jO)<|zE (jZ (mB y q hy))<|zE fC<|zE aO<|zZ
  ·exact zK<|zK<|zK<|zE hZ<|zZ
 refine jF (b := (!(kN x) || !(kN y))) rfl (fun h2 => ?_) (fun h2 => ?_)
 ·exfalso; revert h2 hv; cases kN x <;> cases kN y <;> simp
 ·refine jD<|jB<|jB<|kx [(18, (vb (decide (0 < (yJ p q)))))] [] (zR (kP jO)<|zR (kP jO)<|zE (jZ (mM x y p q hx hy))<|zE mO<|zZ) ?_
  refine jF (b := decide (0 < (yJ p q))) rfl (fun h3 => ?_) (fun h3 => ?_)
  ·replace h3 := uH h3
   exact absurd (cmpQ_gt.1 h3) (Rat.not_lt.2 hc)
  ·replace h3 := vB h3
   refine jD<|jB<|kx [(5, (jN 0))] [(2, some (bx (jQ (kR.mk x y))))] (zR (kP jO)<|zR (kP jO)<|zE (bS pl61 xY yC)<|zT (qM uA)<|zM<|zZ) ?_
   refine jE ⟨_, (kU (cs := (bx (jQ (kR.mk x y)))) (d := (jQ (kR.mk x y))) rfl rfl uA rfl rfl (.tmp (d := (.val (.int .i64 (0)))) rfl .nil)), ?_⟩
   rfl
end Go.Proofs.YtnajallgoaiahaaGreatDoor
namespace Go.Fid
set_option linter.unusedVariables false
set_option linter.unusedSimpArgs false
def rootN (x : Nat) : Nat := Nat.rec (motive := fun _ => Nat) 0 (fun _ r => if (r + 1) * (r + 1) ≤ x then r + 1 else r) x
theorem rootN_go (x : Nat) : ∀ k, let r : Nat := Nat.rec (motive := fun _ => Nat) 0 (fun _ r => if (r + 1) * (r + 1) ≤ x then r + 1 else r) k; r * r ≤ x ∧ (x < (r + 1) * (r + 1) ∨ r = k)
  | 0 => ⟨Nat.zero_le _, .inr rfl⟩
  | k + 1 => by
    obtain ⟨h1, h2⟩ := rootN_go x k
    dsimp only at h1 h2 ⊢
    generalize hr : (Nat.rec (motive := fun _ => Nat) 0 (fun _ r => if (r + 1) * (r + 1) ≤ x then r + 1 else r) k : Nat) = r at h1 h2
    split
    · rename_i h
      refine ⟨h, ?_⟩
      rcases h2 with h2 | h2
      · omega
      · right; omega
    · rename_i h; exact ⟨h1, .inl (by omega)⟩
theorem rootN_le (x : Nat) : rootN x * rootN x ≤ x := (rootN_go x x).1
theorem lt_rootN (x : Nat) : x < (rootN x + 1) * (rootN x + 1) := by
  rcases (rootN_go x x).2 with h | h
  · exact h
  · have h : rootN x = x := h
    rw [h]
    have : (x + 1) * (x + 1) = x * x + 2 * x + 1 := by rw [Nat.add_mul, Nat.mul_add]; omega
    omega
theorem sq_lt {a b : Nat} (h : a * a < b * b) : a < b := by
  rcases Nat.lt_or_ge a b with h1 | h1
  · exact h1
  · have := Nat.mul_le_mul h1 h1; omega
theorem root_uniq {x r : Nat} (h1 : r * r ≤ x) (h2 : x < (r + 1) * (r + 1)) : r = rootN x := by
  have a1 := sq_lt (Nat.lt_of_le_of_lt h1 (lt_rootN x))
  have a2 := sq_lt (Nat.lt_of_le_of_lt (rootN_le x) h2)
  omega
theorem newton_up {x r : Nat} (hr : 0 < r) : x < ((r + x / r) / 2 + 1) * ((r + x / r) / 2 + 1) := by
  have h1 : x < r * (x / r + 1) := by
    have := Nat.div_add_mod x r
    have := Nat.mod_lt x hr
    rw [Nat.mul_add, Nat.mul_one]; omega
  generalize x / r = q at *
  generalize hn : (r + q) / 2 = n at *
  have h2 : r + (q + 1) ≤ 2 * (n + 1) := by omega
  have h3 : 4 * (r * (q + 1)) ≤ (r + (q + 1)) * (r + (q + 1)) := by
    generalize q + 1 = b
    rcases Nat.le_total r b with h | h
    · obtain ⟨d, rfl⟩ := Nat.exists_eq_add_of_le h
      have : (r + (r + d)) * (r + (r + d)) = 4 * (r * (r + d)) + d * d := by grind
      omega
    · obtain ⟨d, rfl⟩ := Nat.exists_eq_add_of_le h
      have : (b + d + b) * (b + d + b) = 4 * ((b + d) * b) + d * d := by grind
      omega
  have h4 := Nat.mul_le_mul h2 h2
  have h5 : 2 * (n + 1) * (2 * (n + 1)) = 4 * ((n + 1) * (n + 1)) := by grind
  omega
theorem newton_end {x r : Nat} (hr : 0 < r) (h : r ≤ (r + x / r) / 2) : r * r ≤ x := by
  have h1 : r ≤ x / r := by omega
  exact Nat.le_trans (Nat.mul_le_mul_left r h1) (Nat.mul_div_le x r)
theorem newton_pos {x r : Nat} (hx : 0 < x) (hr : 0 < r) : 0 < (r + x / r) / 2 := by
  have := newton_up (x := x) hr
  rcases Nat.eq_zero_or_pos ((r + x / r) / 2) with h | h
  · rw [h] at this; omega
  · exact h
theorem newton_root {x r : Nat} (hr : 0 < r) (hu : x < (r + 1) * (r + 1)) (h : r ≤ (r + x / r) / 2) : r = rootN x := root_uniq (newton_end hr h) hu
theorem bit_and (n b : Nat) : (n &&& 2 ^ b = 0) ↔ n / 2 ^ b % 2 = 0 := by
  have hb : n.testBit b = decide (n / 2 ^ b % 2 = 1) := Nat.testBit_eq_decide_div_mod_eq
  have key : (n &&& 2 ^ b = 0) ↔ n.testBit b = false := by
    constructor
    · intro h
      have := congrArg (fun m : Nat => m.testBit b) h
      simpa [Nat.testBit_and, Nat.testBit_two_pow] using this
    · intro h
      apply Nat.eq_of_testBit_eq
      intro i
      rw [Nat.testBit_and, Nat.testBit_two_pow, Nat.zero_testBit]
      by_cases e : b = i
      · subst e; rw [h]; rfl
      · simp [e]
  rw [key, hb, decide_eq_false_iff_not]
  omega
abbrev vD (k : Nat) : Rat := ((((2 ^ k : Nat) : Int) : Int) : Rat)
def pwS (n i : Nat) : Nat := 2 ^ (n / 2 ^ (13 - i))
theorem pwS_0 {n : Nat} (h : n ≤ 4096) : [1] = ofNat (pwS n 0) := by
  have e : n / 2 ^ (13 - 0) = 0 := Nat.div_eq_of_lt (by show n < 8192; omega)
  unfold pwS; rw [e, Nat.pow_zero, gY (by decide)]
  have : ofNat (1 / 1000000000) = [] := by rw [show 1 / 1000000000 = 0 from rfl, uF]
  rw [this]
theorem pwS_13 (n : Nat) : pwS n 13 = 2 ^ n := by unfold pwS; simp
theorem bit_eq {i : Nat} (h : i ≤ 12) : 4096 / 2 ^ i = 2 ^ (12 - i) := by
  rw [show (4096 : Nat) = 2 ^ 12 from rfl, Nat.pow_div h (by decide)]
theorem bit_13 : 4096 / 2 ^ 13 = 0 := by decide
theorem bit_pos {i : Nat} (hi : i ≤ 13) (h : (0 : Int) < ((4096 / 2 ^ i : Nat) : Int)) : i < 13 := by
  by_cases e : i = 13
  · subst e; rw [bit_13] at h; omega
  · omega
theorem bit_end {i : Nat} (hi : i ≤ 13) (h : ¬ (0 : Int) < ((4096 / 2 ^ i : Nat) : Int)) : i = 13 := by
  by_cases e : i = 13
  · exact e
  · rw [bit_eq (by omega)] at h
    have := Nat.pow_pos (n := 12 - i) (show 0 < 2 by decide)
    omega
theorem bit_half (i : Nat) : 4096 / 2 ^ i / 2 = 4096 / 2 ^ (i + 1) := by rw [Nat.div_div_eq_div_mul, Nat.pow_succ]
theorem pw_half {n i : Nat} (hi : i < 13) : n / 2 ^ (12 - i) = 2 * (n / 2 ^ (13 - i)) + n / 2 ^ (12 - i) % 2 := by
  have e : n / 2 ^ (13 - i) = n / 2 ^ (12 - i) / 2 := by
    rw [Nat.div_div_eq_div_mul, ← Nat.pow_succ, show (12 - i).succ = 13 - i by omega]
  rw [e]; omega
theorem pwS_even {n i : Nat} (hi : i < 13) (h : (n &&& 4096 / 2 ^ i) = 0) : pwS n i * pwS n i = pwS n (i + 1) := by
  rw [bit_eq (by omega), bit_and] at h
  have e := pw_half (n := n) hi
  unfold pwS
  rw [show 13 - (i + 1) = 12 - i by omega, e, h, Nat.add_zero, Nat.two_mul, Nat.pow_add]
theorem pwS_odd {n i : Nat} (hi : i < 13) (h : ¬ (n &&& 4096 / 2 ^ i) = 0) : pwS n i * pwS n i * 2 = pwS n (i + 1) := by
  rw [bit_eq (by omega), bit_and] at h
  have e := pw_half (n := n) hi
  have h2 : n / 2 ^ (12 - i) % 2 = 1 := by omega
  unfold pwS
  rw [show 13 - (i + 1) = 12 - i by omega, e, h2, Nat.pow_add, Nat.two_mul, Nat.pow_add, Nat.pow_one]
theorem two_pw (e : Nat) : 2 ^ e < pw (e + 1) := by
  induction e with
  | zero => simp [pw]
  | succ e ih => rw [Nat.pow_succ, uQ]; omega
theorem len_two (e : Nat) : (ofNat (2 ^ e)).length ≤ e + 1 := qY (two_pw e)
theorem len_pwS {n : Nat} (h : n ≤ 4096) (i : Nat) : (ofNat (pwS n i)).length ≤ 4097 := by
  have := len_two (n / 2 ^ (13 - i))
  have h2 : n / 2 ^ (13 - i) ≤ n := Nat.div_le_self _ _
  unfold pwS; omega
theorem g2 : kO (kJ 2) = [2] := by
  rw [grpI_ofZ]
  show ofNat 2 = [2]
  rw [gY (by decide), show 2 / 1000000000 = 0 from rfl, uF]
theorem g2n : ofNat (Int.natAbs 2) = [2] := by rw [← grpI_ofZ]; exact g2
theorem g2len : (kJ 2).gs.length = 1 := by
  show (ofNat 2).length = 1
  rw [show ofNat 2 = [2] from g2n]; rfl
theorem neg2 : (kJ 2).neg = false := rfl
theorem len_sq {n i : Nat} {out : List Nat} (hv : val out = pwS n i) (hn : n ≤ 4096) (hi : i < 13) : (ofNat (val out * val out)).length ≤ 8195 := by
  rw [hv]
  unfold pwS
  rw [← Nat.pow_add]
  have := len_two (n / 2 ^ (13 - i) + n / 2 ^ (13 - i))
  have h2 : n / 2 ^ (13 - i) ≤ n := Nat.div_le_self _ _
  omega
theorem mk_two (n : Nat) : vW false (val (ofNat (pwS n 13))) = kJ ((2 ^ n : Nat) : Int) := by
  rw [kB, pwS_13]
  unfold kJ
  rw [Int.natAbs_natCast, decide_eq_false (Int.not_lt.2 (Int.natCast_nonneg _))]
def qC (z : Int) : Int := ((rootN z.toNat : Nat) : Int)
theorem rootI_0 (z : Int) : 0 ≤ qC z := Int.natCast_nonneg _
theorem rootI_le {z : Int} (h : 0 ≤ z) : qC z * qC z ≤ z := by
  obtain ⟨x, rfl⟩ := Int.eq_ofNat_of_zero_le h
  have := rootN_le x
  unfold qC; rw [Int.toNat_natCast]
  have e : ((rootN x * rootN x : Nat) : Int) ≤ (x : Int) := by omega
  simpa using e
theorem lt_rootI {z : Int} (h : 0 ≤ z) : z < (qC z + 1) * (qC z + 1) := by
  obtain ⟨x, rfl⟩ := Int.eq_ofNat_of_zero_le h
  have := lt_rootN x
  unfold qC; rw [Int.toNat_natCast]
  have e : (x : Int) < (((rootN x + 1) * (rootN x + 1) : Nat) : Int) := by omega
  simpa using e
theorem rootI_self {z : Int} (h : 0 ≤ z) : qC z ≤ z := by
  have h1 := rootI_le h
  have h2 := rootI_0 z
  by_cases h3 : qC z = 0
  · omega
  · have : qC z * 1 ≤ qC z * qC z := Int.mul_le_mul_of_nonneg_left (by omega) h2
    omega
theorem iok_root {z : Int} {n : Nat} {x : kS} (h : 0 ≤ z) (hz : yP x z n) : yP (kJ (qC z)) (qC z) n := nT (Nat.le_trans (eU (by have := rootI_0 z; have := rootI_self h; omega)) hz.ln)
theorem nw_val (X : Nat) (r : List Nat) : val (ofNat (val (ofNat (val r + val (ofNat (val (ofNat X) / val r)))) / 2)) = (val r + X / val r) / 2 := by
  rw [kB, kB, kB, kB]
theorem val_app (a b : List Nat) : val (a ++ b) = val a + pw a.length * val b := by
  induction a with
  | nil => simp [val, pw]
  | cons d a ih =>
    show d + 1000000000 * val (a ++ b) = d + 1000000000 * val a + pw (a.length + 1) * val b
    rw [ih, uQ, Nat.mul_add, Nat.mul_assoc]; omega
theorem val_zeros (n : Nat) : val (List.replicate n 0) = 0 := by
  induction n with
  | zero => rfl
  | succ n ih => rw [List.replicate_succ]; show 0 + 1000000000 * val (List.replicate n 0) = 0; rw [ih]
theorem nw_start (n : Nat) : val (List.replicate n 0 ++ [1]) = pw n := by
  rw [val_app, val_zeros, List.length_replicate]
  show 0 + pw n * (1 + 1000000000 * 0) = pw n
  omega
theorem nw_cano (n : Nat) : xX (List.replicate n 0 ++ [1]) := by
  refine ⟨fun d hd => ?_, ?_⟩
  · rcases List.mem_append.1 hd with h | h
    · rw [(List.mem_replicate.1 h).2]; decide
    · rw [List.mem_singleton.1 h]; decide
  · unfold Top
    rw [List.getD_eq_getElem?_getD]
    simp
theorem nw_top {X : Nat} : X < (val (List.replicate (((ofNat X).length + 1) / 2) 0 ++ [1]) + 1) * (val (List.replicate (((ofNat X).length + 1) / 2) 0 ++ [1]) + 1) := by
  rw [nw_start]
  have h := fY X
  have h2 : pw (ofNat X).length ≤ pw (((ofNat X).length + 1) / 2 + ((ofNat X).length + 1) / 2) := by unfold pw; exact Nat.pow_le_pow_right (by decide) (by omega)
  rw [pw_add] at h2
  have h3 : pw (((ofNat X).length + 1) / 2) * pw (((ofNat X).length + 1) / 2) ≤ (pw (((ofNat X).length + 1) / 2) + 1) * (pw (((ofNat X).length + 1) / 2) + 1) := Nat.mul_le_mul (by omega) (by omega)
  omega
theorem cmpI_ge0 {a b : Int} : 0 ≤ uX a b ↔ b ≤ a := by
  unfold uX
  by_cases h : a < b
  · rw [if_pos h]; omega
  · rw [if_neg h]; split <;> omega
theorem nw_end {z : Int} {r : List Nat} (z0 : 0 ≤ z) (h0 : 0 < val r) (hu : z.natAbs < (val r + 1) * (val r + 1)) (h : val r ≤ (val r + z.natAbs / val r) / 2) : vW false (val r) = kJ (qC z) := by
  have e := newton_root h0 hu h
  obtain ⟨x, rfl⟩ := Int.eq_ofNat_of_zero_le z0
  rw [Int.natAbs_natCast] at e
  unfold qC kJ
  rw [Int.toNat_natCast, ← e, Int.natAbs_natCast, decide_eq_false (by omega)]
theorem two_pos (n : Nat) : (0 : Int) < ((2 ^ n : Nat) : Int) := by
  have := Nat.pow_pos (n := n) (show 0 < 2 by decide)
  exact Int.natCast_pos.2 this
theorem neg_abs {z : Int} (z0 : 0 ≤ z) (h : (kJ z).neg = true) : False := by
  have : (decide (z < 0) && z.natAbs != 0) = true := h
  rw [decide_eq_false (show ¬ z < 0 by omega)] at this
  cases this
theorem root_nil {z : Int} (h : (((ofNat z.natAbs).length : Nat) : Int) = ((0 : Nat) : Int)) : kJ (qC z) = kS.mk false [] := by
  have e : ofNat z.natAbs = [] := List.eq_nil_of_length_eq_zero (by omega)
  have e2 := aT.1 e
  have e3 : z = 0 := by omega
  subst e3
  have : qC 0 = 0 := by
    have := rootI_self (z := 0) (by decide); have := rootI_0 0; omega
  rw [this]
  show kS.mk (decide ((0 : Int) < 0) && (Int.natAbs 0 != 0)) (ofNat (Int.natAbs 0)) = _
  rw [show Int.natAbs 0 = 0 from rfl, uF]; rfl
theorem nw_ok (X : Nat) {r : List Nat} (hr : 0 < val r) (hX : 0 < X) (hc : ¬ (0 : Int) ≤ uX (((val (ofNat (val (ofNat (val r + val (ofNat (val (ofNat X) / val r)))) / 2)) : Nat)) : Int) ((val r : Nat) : Int)) :
    xX (ofNat (val (ofNat (val r + val (ofNat (val (ofNat X) / val r)))) / 2)) ∧ 0 < val (ofNat (val (ofNat (val r + val (ofNat (val (ofNat X) / val r)))) / 2)) ∧ X < (val (ofNat (val (ofNat (val r + val (ofNat (val (ofNat X) / val r)))) / 2)) + 1) * (val (ofNat (val (ofNat (val r + val (ofNat (val (ofNat X) / val r)))) / 2)) + 1) ∧ val (ofNat (val (ofNat (val r + val (ofNat (val (ofNat X) / val r)))) / 2)) < val r := by
  rw [cmpI_ge0, nw_val] at hc
  refine ⟨kY _, ?_, ?_, ?_⟩
  · rw [nw_val]; exact newton_pos hX hr
  · rw [nw_val]; exact newton_up hr
  · rw [nw_val]; omega
theorem nw_stop {X : Nat} {r : List Nat} (hc : (0 : Int) ≤ uX (((val (ofNat (val (ofNat (val r + val (ofNat (val (ofNat X) / val r)))) / 2)) : Nat)) : Int) ((val r : Nat) : Int)) : val r ≤ (val r + X / val r) / 2 := by
  rw [cmpI_ge0, nw_val] at hc; omega
theorem can_len {r s : List Nat} (hr : xX r) (hs : xX s) (h : val r ≤ val s) : r.length ≤ s.length := by
  rw [can_eq hr, can_eq hs]; exact vF h
theorem nw_lens {X : Nat} {r : List Nat} (hx : (ofNat X).length ≤ 400) (hr : r.length ≤ 400) (hc : xX r) : (ofNat (val (ofNat X) / val r)).length ≤ 400 ∧ (ofNat (val r + val (ofNat (val (ofNat X) / val r)))).length ≤ 401 ∧ (ofNat (val (ofNat (val r + val (ofNat (val (ofNat X) / val r)))) / 2)).length ≤ 401 := by
  have h1 : (ofNat (val (ofNat X) / val r)).length ≤ 400 := by
    rw [kB]; exact Nat.le_trans (vF (Nat.div_le_self _ _)) hx
  have h2 : (ofNat (val r + val (ofNat (val (ofNat X) / val r)))).length ≤ 401 := by
    apply qY
    have a1 := vQ hc.1
    have a2 := fY (val (ofNat X) / val r)
    have a3 : pw r.length ≤ pw 400 := yY hr
    have a4 : pw (ofNat (val (ofNat X) / val r)).length ≤ pw 400 := yY h1
    rw [kB (val (ofNat X) / val r), uQ]
    omega
  refine ⟨h1, h2, ?_⟩
  have h3 := kB (val r + val (ofNat (val (ofNat X) / val r)))
  exact Nat.le_trans (vF (by rw [h3]; exact Nat.div_le_self _ _)) h2
theorem mQ {k : Nat} (h : k ≤ 512) : yP (kJ ((2 ^ k : Nat) : Int)) ((2 ^ k : Nat) : Int) 20 := nT (by
  rw [mI, Int.natAbs_natCast]
  refine Nat.lt_of_le_of_lt (Nat.pow_le_pow_right (by decide) h) ?_
  unfold pw
  decide +kernel)
theorem dQ {k : Nat} (h : k ≤ 512) : QL (((2 ^ k : Nat) : Int) : Rat) 20 := gD (mQ h).ln (by decide)
def gO (x : Rat) : Int := x.num.fdiv ((x.den : Nat) : Int)
theorem aD {x : Rat} {n k : Nat} (h : QL x n) (hk : n + 1 ≤ k) : yP (kJ (gO x)) (gO x) k := nT (Nat.le_trans (lenZ_fdiv _ _) (Nat.le_trans (Nat.succ_le_succ h.1) hk))
theorem flZ_floor (x : Rat) : gO x = x.floor := by
  unfold gO; rw [Rat.floor_def, Int.fdiv_eq_ediv_of_nonneg _ (by omega)]
theorem fl_nn {x : Rat} (h : 0 ≤ x) : 0 ≤ gO x := by
  rw [flZ_floor, Rat.le_floor_iff]; exact h
theorem aH {x : Rat} {k : Nat} (h : 0 ≤ x) : 0 ≤ x * ((((2 ^ k : Nat) : Int) : Rat) * (((2 ^ k : Nat) : Int) : Rat)) := by
  have h2 : (0 : Rat) ≤ (((2 ^ k : Nat) : Int) : Rat) := by
    rw [← Rat.intCast_zero]; exact Rat.intCast_le_intCast.2 (Int.le_of_lt (two_pos k))
  exact Rat.mul_nonneg h (Rat.mul_nonneg h2 h2)
theorem sgn_nn {x : Rat} (h : 0 ≤ x) : ¬ (dZ x) < 0 := by
  unfold dZ
  have h2 : 0 ≤ x.num := Rat.num_nonneg.2 h
  unfold uB
  by_cases e : x.num = 0
  · rw [if_pos e]; decide
  · rw [if_neg e, if_neg (by omega)]; decide
def upI (y : Rat) : Int := if ((qC (gO y) * qC (gO y) : Int) : Rat) < y then qC (gO y) + 1 else qC (gO y)
theorem iok_upI {y : Rat} {n k : Nat} (h : 0 ≤ gO y) (hz : yP (kJ (gO y)) (gO y) n) (hk : n + 1 ≤ k) (hn : 1 ≤ n) : yP (kJ (upI y)) (upI y) k := nT (by
  have h1 := (iok_root h hz).ln
  unfold upI
  by_cases e : ((qC (gO y) * qC (gO y) : Int) : Rat) < y
  · rw [if_pos e]
    exact lenZ_add h1 (yO (z := 1) (by decide)) (by omega)
  · rw [if_neg e]; omega)
theorem cmpQ_ltR {a b : Rat} : yJ a b < 0 ↔ a < b := by
  unfold yJ
  by_cases h : a < b
  · rw [if_pos h]; exact ⟨fun _ => h, fun _ => by decide⟩
  · rw [if_neg h]; refine ⟨fun hh => ?_, fun hh => absurd hh h⟩
    by_cases h2 : b < a
    · rw [if_pos h2] at hh; exact absurd hh (by decide)
    · rw [if_neg h2] at hh; exact absurd hh (by decide)
theorem upI_t {y : Rat} (h : yJ ((qC (gO y) * qC (gO y) : Int) : Rat) y < 0) : upI y = qC (gO y) + 1 := if_pos (cmpQ_ltR.1 h)
theorem upI_f {y : Rat} (h : ¬ yJ ((qC (gO y) * qC (gO y) : Int) : Rat) y < 0) : upI y = qC (gO y) := if_neg (fun hh => h (cmpQ_ltR.2 hh))
theorem p2_ne (k : Nat) : (((2 ^ k : Nat) : Int) : Rat) ≠ 0 := by
  intro h
  have : ((2 ^ k : Nat) : Int) = 0 := by rw [← Rat.intCast_zero] at h; exact Rat.intCast_inj.1 h
  have := two_pos k; omega
theorem divP (a : Int) (k : Nat) : Rat.divInt a ((2 ^ k : Nat) : Int) = ((a : Int) : Rat) / (((2 ^ k : Nat) : Int) : Rat) := by rw [Rat.divInt_eq_div]
theorem p2_pos (k : Nat) : (0 : Rat) < (((2 ^ k : Nat) : Int) : Rat) := by
  rw [← Rat.intCast_zero]; exact Rat.intCast_lt_intCast.2 (two_pos k)
theorem divP_le {a : Int} {k : Nat} {c : Rat} (h : ((a : Int) : Rat) ≤ c * (((2 ^ k : Nat) : Int) : Rat)) : Rat.divInt a ((2 ^ k : Nat) : Int) ≤ c := by
  rw [divP, ← Rat.not_lt, Rat.lt_div_iff (p2_pos k), Rat.not_lt]; exact h
theorem flZ_le (x : Rat) : ((gO x : Int) : Rat) ≤ x := by rw [flZ_floor]; exact Rat.floor_le x
theorem divP_mul (a : Int) (k : Nat) : Rat.divInt a ((2 ^ k : Nat) : Int) * (((2 ^ k : Nat) : Int) : Rat) = ((a : Int) : Rat) := by
  rw [divP, Rat.div_mul_cancel (p2_ne k)]
theorem rt_lo {y : Rat} (hy : 0 ≤ y) : ((qC (gO y) * qC (gO y) : Int) : Rat) ≤ y := Rat.le_trans (Rat.intCast_le_intCast.2 (rootI_le (fl_nn hy))) (flZ_le y)
theorem upI_nn (y : Rat) : 0 ≤ upI y := by
  have := rootI_0 (gO y)
  unfold upI; split <;> omega
theorem rt_hi {y : Rat} (hy : 0 ≤ y) : y ≤ ((upI y * upI y : Int) : Rat) := by
  unfold upI
  by_cases e : ((qC (gO y) * qC (gO y) : Int) : Rat) < y
  · rw [if_pos e]
    have h1 := lt_rootI (fl_nn hy)
    have h2 : y < ((gO y + 1 : Int) : Rat) := by rw [flZ_floor]; exact Rat.lt_floor_add_one y
    exact Rat.le_trans (Rat.le_of_lt h2) (Rat.intCast_le_intCast.2 h1)
  · rw [if_neg e]; exact Rat.not_lt.1 e
theorem sq_int {a b : Int} (b0 : 0 ≤ b) (h : a * a ≤ b * b) : a ≤ b := by
  by_cases hh : a ≤ b
  · exact hh
  · have h1 : b < a := by omega
    have h2 : b * b < a * a := by
      have q1 : b * b ≤ b * a := Int.mul_le_mul_of_nonneg_left (by omega) b0
      have q2 : b * a < a * a := Int.mul_lt_mul_of_pos_right h1 (by omega)
      omega
    omega
theorem rt_valid {p q : Rat} (k : Nat) (hp : 0 ≤ p) (h : p ≤ q) : Rat.divInt (qC (gO (p * ((((2 ^ k : Nat) : Int) : Rat) * (((2 ^ k : Nat) : Int) : Rat))))) ((2 ^ k : Nat) : Int) ≤ Rat.divInt (upI (q * ((((2 ^ k : Nat) : Int) : Rat) * (((2 ^ k : Nat) : Int) : Rat)))) ((2 ^ k : Nat) : Int) := by
  refine divP_le ?_
  rw [divP_mul]
  refine Rat.intCast_le_intCast.2 (sq_int (upI_nn _) (Rat.intCast_le_intCast.1 ?_))
  have hq : 0 ≤ q := Rat.le_trans hp h
  have hPP : (0 : Rat) ≤ (((2 ^ k : Nat) : Int) : Rat) * (((2 ^ k : Nat) : Int) : Rat) := Rat.mul_nonneg (Rat.le_of_lt (p2_pos k)) (Rat.le_of_lt (p2_pos k))
  exact Rat.le_trans (rt_lo (aH hp)) (Rat.le_trans (Rat.mul_le_mul_of_nonneg_right h hPP) (rt_hi (aH hq)))
end Go.Fid
