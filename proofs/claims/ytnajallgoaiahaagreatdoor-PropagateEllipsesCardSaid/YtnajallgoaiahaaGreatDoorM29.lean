/- Part 29 of a proof: rules, plain facts, and functions walked. -/
import Derived.Test.YtnajallgoaiahaaGreatDoorM28
import Derived.Test.YtnajallgoaiahaaGreatDoorM21
import Derived.Test.YtnajallgoaiahaaGreatDoorM11
namespace Go.Proofs.YtnajallgoaiahaaGreatDoor
open Go.Fid
set_option maxRecDepth 4000
set_option linter.unusedVariables false
set_option linter.unusedSimpArgs false
theorem by24 : xW Tryz.prog 24 = some 24 := by kernel_rfl
theorem cb18 : callB Tryz.prog 18 = true := by kernel_rfl
theorem cb22 : callB Tryz.prog 22 = true := by kernel_rfl
theorem el32 : uV Tryz.prog 32 = some (23, 1) := by kernel_rfl
theorem el33 : uV Tryz.prog 33 = some (24, 1) := by kernel_rfl
theorem sh23 : qO Tryz.prog 23 = some (false, 1) := by kernel_rfl
theorem ze23 : xP Tryz.prog 23 = some [.slice none 0 0] := by kernel_rfl
theorem ze24 : xP Tryz.prog 24 = some [.slice none 0 0] := by kernel_rfl
theorem zo23 : fS [.slice none 0 0] [.sl 83 7 []] := by simp [fS, Value.oneCell']
theorem zo24 : fS [.slice none 0 0] [.sl 45 4 []] := by simp [fS, Value.oneCell']
theorem p_tab (ts : List (List vT)) (hts : ∀ t ∈ ts, TnsOk 1048576 t) (xs : List Rat) (hx : ∀ q ∈ xs, QL q 1048576) (q : List (List jE)) (hq : vR 1048576 q) (hjs : ∀ t ∈ ts, JRunP (List.map cZ xs) t) (hr : mF q q.length xs.length) (hf : gJ q xs.length = 0) (hxq : xs.length = q.length) (h1 : 1 ≤ ts.length) (h64 : ts.length ≤ 64) : jV Tryz.prog 18 [(.sl 23 1 (List.map cE ts)), (.sl 45 4 (List.map jK (List.map jT xs))), (.sl 24 1 (List.map jL q))] (.tup [(.sl 24 1 (List.map jL (tabR q (List.map (yX xs) ts)))), (.val (.int .i64 (((0 : Nat) : Int))))]) := by
 have hx64 : xs.length ≤ 64 := hr.c64
 have hqm := hr.r64
 have hgo := grs_ok (runs_of hjs) h64
 have hgl : (List.map (yX xs) ts).length = ts.length := List.length_map _
 have hc0 := rect_chk hr
 have hr0 := rect_0 hr
 have hxn : ((List.map jT xs).length) = xs.length := List.length_map _
 have hgx : (List.map cZ xs).length = xs.length := List.length_map _
 refine jJ Tryz.func18 rfl cb18 rfl ?_
 show qI _ _ _ _ ⟨[(0, (vl 23 1 cE ts)), (1, (vl 45 4 jK (List.map jT xs))), (2, (vl 24 1 jL q))], []⟩
 refine jB <| kx [] [] (zE (fH 24 1) <| zM <| zZ) ?_
 refine jB <| jB <| kx [(31, (vb false))] [] (zM <| zE (jX (p_pts xs hx (by omega))) <| zE (jX (p_val (List.map cZ xs) (pts_gl hx) (by omega))) <| zE mM <| zM <| zM <| zE (jX (m_chk q hq)) <| zE (xI false cS (by exact bne_eq_false_iff_eq.2 (by rw [show (nE q) = 0 from hc0] <;> rfl))) <| zE yI <| zZ) ?_
 refine qA ?_
 refine jF <| jB <| jB <| kx [(34, (vb (((ts.length : Nat) : Int) == ((0 : Nat) : Int))))] [] (zM <| zE (vG el32) <| zE nF <| zZ) ?_
 refine jH rfl (fun h1 => ?_) (fun h1 => ?_)
 ·replace h1 := eq_of_beq h1
  exfalso; omega
 ·replace h1 := ne_of_beq_false h1
  refine jF <| jB <| jB <| kx [(37, (vb (decide (((64 : Nat) : Int) < ((ts.length : Nat) : Int)))))] [] (zM <| zE (vG el32) <| zE hC <| zZ) ?_
  refine jH rfl (fun h2 => ?_) (fun h2 => ?_)
  ·replace h2 := of_decide_eq_true h2
   exfalso; omega
  ·replace h2 := of_decide_eq_false h2
   refine jF <| jB <| jB <| kx [(38, (vl 23 1 cE ts)), (39, (jW ts.length)), (40, (jW 0))] [] (zM <| zE (vG el32) <| zM <| zZ) ?_
   refine jI <| kN (α := Nat) (fun i => ⟨[(0, (vl 23 1 cE ts)), (1, (vl 45 4 jK (List.map jT xs))), (2, (vl 24 1 jL q)), (38, (vl 23 1 cE ts)), (39, (jW ts.length)), (40, (jW i))], []⟩) (fun i => i ≤ ts.length) (fun i => ts.length - i) 0 wk (Nat.zero_le _) ?_
   rintro i hi
   refine jB <| kx [(41, (vb (decide (((i : Nat) : Int) < ((ts.length : Nat) : Int)))))] [] (zE xK <| zZ) ?_
   refine jB <| jH rfl (fun h3 => ?_) (fun h3 => ?_)
   ·replace h3 := of_decide_eq_true h3
    refine jF <| jB <| jI <| jB <| kx [(9, (vl 83 7 uW (ts.getD i [])))] [] (zE (xM el32 i ([] : List (vT))) <| zE (xZ sh23) <| zM <| zZ) ?_
    refine jB <| kx [(10, (jW (tmC ((xs.length : Nat) : Int) (ts.getD i []))))] [] (zM <| zM <| zE (oLn uN xs.length) <| zE (jX (j_chk (ts.getD i []) (tms_at hts i) ((xs.length : Nat) : Int))) <| zM <| zZ) ?_
    refine jB <| kx [(49, (vb false))] [] (zM <| zE (xI false cS (by exact bne_eq_false_iff_eq.2 (by rw [show (tmC ((xs.length : Nat) : Int) (ts.getD i [])) = 0 from (tms_c0 (runs_of hjs) (show i < ts.length by omega))] <;> rfl))) <| zZ) ?_
    refine qA ?_
    refine jF <| kx [(40, (jW (i + 1)))] [] (zE (vU (i + 1)) <| zM <| zZ) ?_
    exact ⟨i + 1, wk, (by omega), (by first | omega | (dsimp only; omega))⟩
   ·replace h3 := of_decide_eq_false h3
    refine kL <| jB <| jB <| kx [(11, (jW (gJ q xs.length)))] [] (zM <| zM <| zE (oLn uN xs.length) <| zE (jX (p_fit q hq xs.length hr0)) <| zM <| zZ) ?_
    refine jB <| kx [(57, (vb false))] [] (zM <| zE (xI false cS (by exact bne_eq_false_iff_eq.2 (by rw [show (gJ q xs.length) = 0 from hf] <;> rfl))) <| zZ) ?_
    refine qA ?_
    refine jF <| jB <| kx [(12, (.own 0 24 1 0))] [(0, some (bm jL []))] (zO 0 24 1 <| zZ) ?_
    refine jB <| jB <| kx [(59, (vl 23 1 cE ts)), (60, (jW ts.length)), (61, (jW 0))] [] (zM <| zE (vG el32) <| zM <| zZ) ?_
    refine jI <| kN (α := Nat × List (List jE)) (fun (i, o) => ⟨[(1, (vl 45 4 jK (List.map jT xs))), (2, (vl 24 1 jL q)), (12, (.own 0 24 1 o.length)), (59, (vl 23 1 cE ts)), (60, (jW ts.length)), (61, (jW i))], [(0, some (bm jL o))]⟩) (fun (i, o) => i ≤ ts.length ∧ o = (ts.take i).map (yX xs)) (fun (i, o) => ts.length - i) (0, []) wk ⟨Nat.zero_le _, by simp⟩ ?_
    rintro ⟨i, o⟩ ⟨hi, ho⟩
    have hol : o.length = i := by rw [ho, List.length_map, List.length_take]; omega
    refine jB <| kx [(62, (vb (decide (((i : Nat) : Int) < ((ts.length : Nat) : Int)))))] [] (zE xK <| zZ) ?_
    refine jB <| jH rfl (fun h4 => ?_) (fun h4 => ?_)
    ·replace h4 := of_decide_eq_true h4
     refine jF <| jB <| jI <| jB <| kx [(14, (vl 83 7 uW (ts.getD i [])))] [] (zE (xM el32 i ([] : List (vT))) <| zE (xZ sh23) <| zM <| zZ) ?_
     refine jB <| kx [(15, (vl 45 4 jK (yX xs (ts.getD i [])))), (16, (jW 0))] [] (zM <| zM <| zE (jX (p_grd (ts.getD i []) (tms_at hts i) xs hx (mem_at hjs (show i < ts.length by omega)) (by omega))) <| zM <| zE uZ <| zE uZ <| zM <| zM <| zZ) ?_
     refine jB <| jB <| kx [(72, (vb false))] [] (zM <| zE (xI false cS) <| zZ) ?_
     refine qA ?_
     refine jF <| kf [(12, (.own 0 24 1 ((o ++ [(yX xs (ts.getD i []))]).length)))] [(0, some (bm jL (o ++ [(yX xs (ts.getD i []))])))] (zM <| zM <| zE (eI el33 ze24 zo24) <| zA jL o [(yX xs (ts.getD i []))] rfl el33 ze24 by24 <| zM <| zF) ?_
     refine kx [(61, (jW (i + 1)))] [] (zE (vU (i + 1)) <| zM <| zZ) ?_
     exact ⟨(i + 1, o ++ [yX xs (ts.getD i [])]), wk, ⟨by omega, by rw [ho]; exact fF (by omega)⟩, (by first | omega | (dsimp only; omega))⟩
    ·replace h4 := of_decide_eq_false h4
     have hgs : o = (List.map (yX xs) ts) := by rw [ho, show i = ts.length by omega, List.take_length]
     refine kL <| jB <| kx [(17, (.own 1 24 1 0))] [(1, some (bm jL []))] (zOh 1 24 1 <| zZ) ?_
     refine jB <| jB <| qE (vZ (t := 12) (k := 0) (es := List.map jL o) rfl rfl (uM _ _ (fun _ => rfl)) (vC _ _ rfl) (vM _ _ (fun _ => rfl) rfl)) ?_
     refine kx [(79, (vl 24 1 jL (List.map (yX xs) ts))), (80, (jW ((List.map (yX xs) ts).length))), (81, (jW 0))] [] (zE (oQd (.sl 24 1 (List.map jL o)) (.sl 24 1 (List.map jL (List.map (yX xs) ts))) (oV (vl 24 1 jL o) (kY (by kernel_rfl))) (by exact (by rw [hgs]))) <| zE (vG el33 (L := (List.map (yX xs) ts))) <| zM <| zZ) ?_
     refine jI <| kN (α := Nat × List (List jE)) (fun (i, u) => ⟨[(2, (vl 24 1 jL q)), (12, (vl 24 1 jL o)), (17, (.own 1 24 1 u.length)), (79, (vl 24 1 jL (List.map (yX xs) ts))), (80, (jW ((List.map (yX xs) ts).length))), (81, (jW i))], [(1, some (bm jL u))]⟩) (fun (i, u) => i ≤ (List.map (yX xs) ts).length ∧ u = ((List.map (yX xs) ts).take i).map (fun a => (List.map (yX xs) ts).map fun b => jT (covR q a b))) (fun (i, u) => (List.map (yX xs) ts).length - i) (0, []) wk ⟨Nat.zero_le _, by simp⟩ ?_
     rintro ⟨i, u⟩ ⟨hi2, hu⟩
     have hul : u.length = i := by rw [hu, List.length_map, List.length_take]; omega
     refine jB <| kx [(82, (vb (decide (((i : Nat) : Int) < (((List.map (yX xs) ts).length : Nat) : Int)))))] [] (zE xK <| zZ) ?_
     refine jB <| jH rfl (fun h5 => ?_) (fun h5 => ?_)
     ·replace h5 := of_decide_eq_true h5
      obtain ⟨hli0, hvi⟩ := grs_at (runs_of hjs) (show i < (List.map (yX xs) ts).length by omega)
      have hli := hli0.trans hxq
      refine jF <| jB <| jI <| jB <| kx [(19, (vl 45 4 jK ((List.map (yX xs) ts).getD i [])))] [] (zE (xM el33 i ([] : List (jE)) (L := (List.map (yX xs) ts))) <| zE (xZ gP) <| zM <| zZ) ?_
      refine jB <| kx [(20, (.own 2 45 4 0))] [(2, some (xD jK []))] (zOh 2 45 4 <| zZ) ?_
      refine jB <| jB <| kx [(85, (vl 24 1 jL (List.map (yX xs) ts))), (86, (jW ((List.map (yX xs) ts).length))), (87, (jW 0))] [] (zE (oQd (.sl 24 1 (List.map jL o)) (.sl 24 1 (List.map jL (List.map (yX xs) ts))) (oV (vl 24 1 jL o) (kY (by kernel_rfl))) (by exact (by rw [hgs]))) <| zE (vG el33 (L := (List.map (yX xs) ts))) <| zM <| zZ) ?_
      refine jI <| kN (α := Nat × List jE) (fun (j, v) => ⟨[(2, (vl 24 1 jL q)), (12, (vl 24 1 jL o)), (17, (.own 1 24 1 u.length)), (19, (vl 45 4 jK ((List.map (yX xs) ts).getD i []))), (20, (.own 2 45 4 v.length)), (79, (vl 24 1 jL (List.map (yX xs) ts))), (80, (jW ((List.map (yX xs) ts).length))), (81, (jW i)), (85, (vl 24 1 jL (List.map (yX xs) ts))), (86, (jW ((List.map (yX xs) ts).length))), (87, (jW j))], [(1, some (bm jL u)), (2, some (xD jK v))]⟩) (fun (j, v) => j ≤ (List.map (yX xs) ts).length ∧ v = ((List.map (yX xs) ts).take j).map (fun b => jT (covR q ((List.map (yX xs) ts).getD i []) b))) (fun (j, v) => (List.map (yX xs) ts).length - j) (0, []) wk ⟨Nat.zero_le _, by simp⟩ ?_
      rintro ⟨j, v⟩ ⟨hj2, hv⟩
      have hvl : v.length = j := by rw [hv, List.length_map, List.length_take]; omega
      refine jB <| kx [(88, (vb (decide (((j : Nat) : Int) < (((List.map (yX xs) ts).length : Nat) : Int)))))] [] (zE xK <| zZ) ?_
      refine jB <| jH rfl (fun h6 => ?_) (fun h6 => ?_)
      ·replace h6 := of_decide_eq_true h6
       obtain ⟨hlj0, hvj⟩ := grs_at (runs_of hjs) (show j < (List.map (yX xs) ts).length by omega)
       have hlj := hlj0.trans hxq
       have hrj : mF q q.length ((List.map (yX xs) ts).getD j []).length := by rw [hlj0]; exact hr
       refine jF <| jB <| jI <| jB <| kx [(22, (vl 45 4 jK ((List.map (yX xs) ts).getD j [])))] [] (zE (xM el33 j ([] : List (jE)) (L := (List.map (yX xs) ts))) <| zE (xZ gP) <| zM <| zZ) ?_
       refine kf [(20, (.own 2 45 4 ((v ++ [(jT (covR q ((List.map (yX xs) ts).getD i []) ((List.map (yX xs) ts).getD j [])))]).length)))] [(2, some (xD jK (v ++ [(jT (covR q ((List.map (yX xs) ts).getD i []) ((List.map (yX xs) ts).getD j [])))])))] (zM <| zM <| zM <| zM <| zE (jX (m_cov q hq ((List.map (yX xs) ts).getD i []) (kO (d := []) hgo (show i < (List.map (yX xs) ts).length by omega)) ((List.map (yX xs) ts).getD j []) (kO (d := []) hgo (show j < (List.map (yX xs) ts).length by omega)) hrj hvj hli hlj)) <| zE (eI uN qX uA) <| zAS jK v [(jT (covR q ((List.map (yX xs) ts).getD i []) ((List.map (yX xs) ts).getD j [])))] rfl uN qX by45 <| zM <| zF) ?_
       refine kx [(87, (jW (j + 1)))] [] (zE (vU (j + 1)) <| zM <| zZ) ?_
       exact ⟨(j + 1, v ++ [jT (covR q ((List.map (yX xs) ts).getD i []) ((List.map (yX xs) ts).getD j []))]), wk, ⟨by omega, by rw [hv]; exact fF (f := fun b => jT (covR q ((List.map (yX xs) ts).getD i []) b)) (by omega)⟩, (by first | omega | (dsimp only; omega))⟩
      ·replace h6 := of_decide_eq_false h6
       refine kL <| qE (vZ (t := 20) (k := 2) (es := List.map jK v) rfl rfl (mA _ _ (fun _ => rfl)) (vC _ _ rfl) (cB jK v (fun _ => rfl) rfl)) ?_
       refine kf [(17, (.own 1 24 1 ((u ++ [v]).length)))] [(1, some (bm jL (u ++ [v])))] (zM <| zM <| zE (eI vJ ze24 zo24) <| zA jL u [v] rfl vJ ze24 by24 <| zM <| zF) ?_
       refine kx [(81, (jW (i + 1)))] [] (zE (vU (i + 1)) <| zM <| zZ) ?_
       exact ⟨(i + 1, u ++ [v]), wk, ⟨by omega, by rw [hu, hv, show j = (List.map (yX xs) ts).length by omega, List.take_length]; exact fF (f := fun a => (List.map (yX xs) ts).map fun b => jT (covR q a b)) (by omega)⟩, (by first | omega | (dsimp only; omega))⟩
     ·replace h5 := of_decide_eq_false h5
      refine kL <| jB <| kx [(6, (.own 1 24 1 u.length)), (7, (jW 0))] [] (zM <| zM <| zM <| zZ) ?_
      refine qE (vZ (t := 6) (k := 1) (es := List.map jL u) rfl rfl (uM _ _ (fun _ => rfl)) (vC _ _ rfl) (vM _ _ (fun _ => rfl) rfl)) ?_
      refine jG ⟨_, (.tmp (d := (.sl 24 1 (List.map jL u))) rfl (.tmp (d := (.val (.int .i64 (((0 : Nat) : Int))))) rfl .nil)), ?_⟩
      rw [hu, show i = (List.map (yX xs) ts).length by omega, List.take_length]; rfl
theorem p_var (t : List vT) (ht : TnsOk 1048576 t) (xs : List Rat) (hx : ∀ q ∈ xs, QL q 1048576) (q : List (List jE)) (hq : vR 1048576 q) (hj : JRunP (List.map cZ xs) t) (hr : mF q q.length xs.length) (hf : gJ q xs.length = 0) (hxq : xs.length = q.length) : jV Tryz.prog 22 [(.sl 83 7 (List.map uW t)), (.sl 45 4 (List.map jK (List.map jT xs))), (.sl 24 1 (List.map jL q))] (.tup [(jK (jT (covR q (yX xs t) (yX xs t)))), (.val (.int .i64 (((0 : Nat) : Int))))]) := by
 have hx64 : xs.length ≤ 64 := hr.c64
 have hjs : ∀ u ∈ [t], JRunP (List.map cZ xs) u := one_of hj
 have ht1 : (tabR q (List.map (yX xs) [t])).length = 1 := rfl
 have ht2 : ((tabR q (List.map (yX xs) [t])).getD 0 []).length = 1 := rfl
 refine jJ Tryz.func22 rfl cb22 rfl ?_
 show qI _ _ _ _ ⟨[(0, (vl 83 7 uW t)), (1, (vl 45 4 jK (List.map jT xs))), (2, (vl 24 1 jL q))], []⟩
 refine jB <| kx [(6, (.ref 0 0))] [(0, some (bx (jK (jE.mk (jD.mk false []) (jD.mk false [])))))] (zN (qS 0 qX uA) <| zM <| zZ) ?_
 refine jB <| kx [(8, (vl 24 1 jL (tabR q (List.map (yX xs) [t])))), (9, (jW 0))] [] (zM <| zE (eI el32 ze23 zo23) <| zM <| zM <| zE (jX (p_tab [t] (tms_one ht) xs hx q hq hjs hr hf hxq (Nat.le_refl 1) (Nat.le_of_ble_eq_true rfl))) <| zM <| zE uZ <| zE uZ <| zM <| zM <| zZ) ?_
 refine jB <| jB <| kx [(19, (vb false))] [] (zM <| zE (xI false cS) <| zZ) ?_
 refine qA ?_
 refine jF <| jB <| kx [(7, (jW 0))] [(0, some (bx (jK (((tabR q (List.map (yX xs) [t])).getD 0 []).getD 0 (jE.mk (jD.mk false []) (jD.mk false []))))))] (zM <| zE (xM vJ 0 ([] : List (jE)) (L := (tabR q (List.map (yX xs) [t])))) <| zE (xZ gP) <| zE (xM uN 0 (jE.mk (jD.mk false []) (jD.mk false [])) (L := ((tabR q (List.map (yX xs) [t])).getD 0 []))) <| zE (dK jR) <| zT (qC jR) <| zM <| zZ) ?_
 refine jG ⟨_, (kU (cs := (bx (jK (((tabR q (List.map (yX xs) [t])).getD 0 []).getD 0 (jE.mk (jD.mk false []) (jD.mk false [])))))) (d := (jK (((tabR q (List.map (yX xs) [t])).getD 0 []).getD 0 (jE.mk (jD.mk false []) (jD.mk false []))))) rfl rfl jR rfl rfl (.tmp (d := (.val (.int .i64 (((0 : Nat) : Int))))) rfl .nil)), ?_⟩
 rfl
end Go.Proofs.YtnajallgoaiahaaGreatDoor
namespace Go.Proofs.YtnajallgoaiahaaGreatDoor
open Go.Fid
set_option maxRecDepth 4000
set_option linter.unusedVariables false
set_option linter.unusedSimpArgs false
theorem cb89 : callB Tryz.prog 89 = true := by kernel_rfl
theorem cb149 : callB Tryz.prog 149 = true := by kernel_rfl
theorem i_makeO (x : jE) (p : Rat) (hx : hH x p 17179869184) (y : jE) (q : Rat) (hy : hH y q 17179869184) (hv : (kP x && kP y) = true) (hc : p ≤ q) : jV Tryz.prog 149 [(jK x), (jK y)] (.tup [(jO (kG.mk x y)), (.val (.int .i64 (0)))]) := by
 refine jJ Tryz.func149 rfl cb149 rfl ?_
 show qI _ _ _ _ ⟨[(0, (.d (jK x))), (1, (.d (jK y)))], []⟩
 refine jB <| kx [(2, (.ref 0 0)), (3, (.ref 1 0)), (4, (.ref 2 0))] [(0, some (bx (jK x))), (1, some (bx (jK y))), (2, some (bx (jO (kG.mk (jE.mk (jD.mk false []) (jD.mk false [])) (jE.mk (jD.mk false []) (jD.mk false []))))))] (zN (vL 0) <| zN (vL 1) <| zN (qS 2 uO uY) <| zM <| zZ) ?_
 refine jB <| jB <| kx [(13, (vb (!(kP x) || !(kP y))))] [] ?_ ?_
 ·refine zR (kR jR) <| zE (jX (nR x p hx)) <| zE mM <| zE (oV (vb (!(kP x))) (kY (by kernel_rfl))) <| ?_
  rcases hb1 : (!(kP x)) with _ | _
  ·exact zR (kR jR) <| zE (jX (nR y q hy)) <| zE mM <| zE cU <| zZ
  ·exact zK <| zK <| zK <| zE vY <| zZ
 refine jH (b := (!(kP x) || !(kP y))) rfl (fun h2 => ?_) (fun h2 => ?_)
 ·exfalso; revert h2 hv; cases kP x <;> cases kP y <;> simp
 ·refine jF <| jB <| jB <| kx [(18, (vb (decide (0 < (xC p q)))))] [] (zR (kR jR) <| zR (kR jR) <| zE (jX (mG x y p q hx hy)) <| zE hC <| zZ) ?_
  refine jH (b := decide (0 < (xC p q))) rfl (fun h3 => ?_) (fun h3 => ?_)
  ·replace h3 := of_decide_eq_true h3
   exact absurd (cmpQ_gt.1 h3) (Rat.not_lt.2 hc)
  ·replace h3 := of_decide_eq_false h3
   refine jF <| jB <| kx [(5, (jW 0))] [(2, some (bx (jO (kG.mk x y))))] (zR (kR jR) <| zR (kR jR) <| zE (eJ pl61 uO uY) <| zT (qC kZ) <| zM <| zZ) ?_
   refine jG ⟨_, (kU (cs := (bx (jO (kG.mk x y)))) (d := (jO (kG.mk x y))) rfl rfl kZ rfl rfl (.tmp (d := (.val (.int .i64 (0)))) rfl .nil)), ?_⟩
   rfl
end Go.Proofs.YtnajallgoaiahaaGreatDoor
set_option linter.unusedVariables false
set_option linter.unusedSimpArgs false
namespace Go.Fid
def fU (x : Nat) : Nat := Nat.rec (motive := fun _ => Nat) 0 (fun _ r => if (r + 1) * (r + 1) ≤ x then r + 1 else r) x
theorem rootN_go (x : Nat) : ∀ k, let r : Nat := Nat.rec (motive := fun _ => Nat) 0 (fun _ r => if (r + 1) * (r + 1) ≤ x then r + 1 else r) k; r * r ≤ x ∧ (x < (r + 1) * (r + 1) ∨ r = k)
  | 0 => ⟨Nat.zero_le _, .inr rfl⟩
  | k + 1 => by
    obtain ⟨h1, h2⟩ := rootN_go x k
    dsimp only at h1 h2 ⊢
    generalize hr : (Nat.rec (motive := fun _ => Nat) 0 (fun _ r => if (r + 1) * (r + 1) ≤ x then r + 1 else r) k : Nat) = r at h1 h2
    split
    · rename_i h
      refine ⟨h, ?_⟩
      rcases h2 with h2 | h2
      · omega
      · right; omega
    · rename_i h; exact ⟨h1, .inl (by omega)⟩
theorem rootN_le (x : Nat) : fU x * fU x ≤ x := (rootN_go x x).1
theorem lt_rootN (x : Nat) : x < (fU x + 1) * (fU x + 1) := by
  rcases (rootN_go x x).2 with h | h
  · exact h
  · have h : fU x = x := h
    rw [h]
    have : (x + 1) * (x + 1) = x * x + 2 * x + 1 := by rw [Nat.add_mul, Nat.mul_add]; omega
    omega
theorem sq_lt {a b : Nat} (h : a * a < b * b) : a < b := by
  rcases Nat.lt_or_ge a b with h1 | h1
  · exact h1
  · have := Nat.mul_le_mul h1 h1; omega
theorem root_uniq {x r : Nat} (h1 : r * r ≤ x) (h2 : x < (r + 1) * (r + 1)) : r = fU x := by
  have a1 := sq_lt (Nat.lt_of_le_of_lt h1 (lt_rootN x))
  have a2 := sq_lt (Nat.lt_of_le_of_lt (rootN_le x) h2)
  omega
theorem newton_up {x r : Nat} (hr : 0 < r) : x < ((r + x / r) / 2 + 1) * ((r + x / r) / 2 + 1) := by
  have h1 : x < r * (x / r + 1) := by
    have := Nat.div_add_mod x r
    have := Nat.mod_lt x hr
    rw [Nat.mul_add, Nat.mul_one]; omega
  generalize x / r = q at *
  generalize hn : (r + q) / 2 = n at *
  have h2 : r + (q + 1) ≤ 2 * (n + 1) := by omega
  have h3 : 4 * (r * (q + 1)) ≤ (r + (q + 1)) * (r + (q + 1)) := by
    generalize q + 1 = b
    rcases Nat.le_total r b with h | h
    · obtain ⟨d, rfl⟩ := Nat.exists_eq_add_of_le h
      have : (r + (r + d)) * (r + (r + d)) = 4 * (r * (r + d)) + d * d := by grind
      omega
    · obtain ⟨d, rfl⟩ := Nat.exists_eq_add_of_le h
      have : (b + d + b) * (b + d + b) = 4 * ((b + d) * b) + d * d := by grind
      omega
  have h4 := Nat.mul_le_mul h2 h2
  have h5 : 2 * (n + 1) * (2 * (n + 1)) = 4 * ((n + 1) * (n + 1)) := by grind
  omega
theorem newton_end {x r : Nat} (hr : 0 < r) (h : r ≤ (r + x / r) / 2) : r * r ≤ x := by
  have h1 : r ≤ x / r := by omega
  exact Nat.le_trans (Nat.mul_le_mul_left r h1) (Nat.mul_div_le x r)
theorem newton_pos {x r : Nat} (hx : 0 < x) (hr : 0 < r) : 0 < (r + x / r) / 2 := by
  have := newton_up (x := x) hr
  rcases Nat.eq_zero_or_pos ((r + x / r) / 2) with h | h
  · rw [h] at this; omega
  · exact h
theorem newton_root {x r : Nat} (hr : 0 < r) (hu : x < (r + 1) * (r + 1)) (h : r ≤ (r + x / r) / 2) : r = fU x := root_uniq (newton_end hr h) hu
theorem bis_end {x l h : Nat} (h1 : l * l ≤ x) (h2 : x < h * h) (hlh : h ≤ l + 1) : l = fU x := by
  refine root_uniq h1 (Nat.lt_of_lt_of_le h2 (Nat.mul_le_mul hlh hlh))
theorem log2_div {x m b : Nat} (hm : m = 2 ^ b) (h : m ≤ x) : Nat.log2 x = Nat.log2 (x / m) + b := by
  have hm0 : 0 < m := by rw [hm]; exact Nat.two_pow_pos b
  have h1 : 1 ≤ x / m := (Nat.one_le_div_iff hm0).2 h
  have h0 : x / m ≠ 0 := by omega
  have a1 := Nat.log2_self_le h0
  have a2 : x / m + 1 ≤ 2 ^ (Nat.log2 (x / m) + 1) := Nat.lt_log2_self
  have q := Nat.div_add_mod x m
  have ql := Nat.mod_lt x hm0
  refine (Nat.log2_eq_iff (by omega)).2 ⟨?_, ?_⟩
  · rw [Nat.pow_add, ← hm]
    have := Nat.mul_le_mul_right m a1
    rw [Nat.mul_comm (x / m) m] at this
    omega
  · rw [show Nat.log2 (x / m) + b + 1 = (Nat.log2 (x / m) + 1) + b by omega, Nat.pow_add, ← hm]
    have := Nat.mul_le_mul_right m a2
    rw [Nat.add_mul, Nat.one_mul, Nat.mul_comm (x / m) m] at this
    omega
theorem log2_step {x : Nat} (h : 536870912 ≤ x) : Nat.log2 x = Nat.log2 (x / 536870912) + 29 := log2_div rfl h
theorem log2_half {x : Nat} (h : 2 ≤ x) : Nat.log2 x = Nat.log2 (x / 2) + 1 := by
  rw [Nat.log2_def, if_pos h]
theorem log_bound {x : Nat} (h : 0 < x) : x < 2 ^ (Nat.log2 x / 2 + 1) * 2 ^ (Nat.log2 x / 2 + 1) := by
  have := Nat.lt_log2_self (n := x)
  rw [← Nat.pow_add]
  exact Nat.lt_of_lt_of_le this (Nat.pow_le_pow_right (by decide) (by omega))
theorem bit_and (n b : Nat) : (n &&& 2 ^ b = 0) ↔ n / 2 ^ b % 2 = 0 := by
  have hb : n.testBit b = decide (n / 2 ^ b % 2 = 1) := Nat.testBit_eq_decide_div_mod_eq
  have key : (n &&& 2 ^ b = 0) ↔ n.testBit b = false := by
    constructor
    · intro h
      have := congrArg (fun m : Nat => m.testBit b) h
      simpa [Nat.testBit_and, Nat.testBit_two_pow] using this
    · intro h
      apply Nat.eq_of_testBit_eq
      intro i
      rw [Nat.testBit_and, Nat.testBit_two_pow, Nat.zero_testBit]
      by_cases e : b = i
      · subst e; rw [h]; rfl
      · simp [e]
  rw [key, hb, decide_eq_false_iff_not]
  omega
end Go.Fid
set_option linter.unusedVariables false
set_option linter.unusedSimpArgs false
namespace Go.Fid
def pwS (n i : Nat) : Nat := 2 ^ (n / 2 ^ (13 - i))
theorem pwS_0 {n : Nat} (h : n ≤ 4096) : [1] = ofNat (pwS n 0) := by
  have e : n / 2 ^ (13 - 0) = 0 := Nat.div_eq_of_lt (by show n < 8192; omega)
  unfold pwS; rw [e, Nat.pow_zero, gC (by decide)]
  have : ofNat (1 / 1000000000) = [] := by rw [show 1 / 1000000000 = 0 from rfl, qU]
  rw [this]
theorem pwS_13 (n : Nat) : pwS n 13 = 2 ^ n := by unfold pwS; simp
theorem bit_eq {i : Nat} (h : i ≤ 12) : 4096 / 2 ^ i = 2 ^ (12 - i) := by
  rw [show (4096 : Nat) = 2 ^ 12 from rfl, Nat.pow_div h (by decide)]
theorem bit_13 : 4096 / 2 ^ 13 = 0 := by decide
theorem bit_pos {i : Nat} (hi : i ≤ 13) (h : (0 : Int) < ((4096 / 2 ^ i : Nat) : Int)) : i < 13 := by
  by_cases e : i = 13
  · subst e; rw [bit_13] at h; omega
  · omega
theorem bit_end {i : Nat} (hi : i ≤ 13) (h : ¬ (0 : Int) < ((4096 / 2 ^ i : Nat) : Int)) : i = 13 := by
  by_cases e : i = 13
  · exact e
  · rw [bit_eq (by omega)] at h
    have := Nat.pow_pos (n := 12 - i) (show 0 < 2 by decide)
    omega
theorem bit_half (i : Nat) : 4096 / 2 ^ i / 2 = 4096 / 2 ^ (i + 1) := by rw [Nat.div_div_eq_div_mul, Nat.pow_succ]
theorem pw_half {n i : Nat} (hi : i < 13) : n / 2 ^ (12 - i) = 2 * (n / 2 ^ (13 - i)) + n / 2 ^ (12 - i) % 2 := by
  have e : n / 2 ^ (13 - i) = n / 2 ^ (12 - i) / 2 := by
    rw [Nat.div_div_eq_div_mul, ← Nat.pow_succ, show (12 - i).succ = 13 - i by omega]
  rw [e]; omega
theorem pwS_even {n i : Nat} (hi : i < 13) (h : (n &&& 4096 / 2 ^ i) = 0) : pwS n i * pwS n i = pwS n (i + 1) := by
  rw [bit_eq (by omega), bit_and] at h
  have e := pw_half (n := n) hi
  unfold pwS
  rw [show 13 - (i + 1) = 12 - i by omega, e, h, Nat.add_zero, Nat.two_mul, Nat.pow_add]
theorem pwS_odd {n i : Nat} (hi : i < 13) (h : ¬ (n &&& 4096 / 2 ^ i) = 0) : pwS n i * pwS n i * 2 = pwS n (i + 1) := by
  rw [bit_eq (by omega), bit_and] at h
  have e := pw_half (n := n) hi
  have h2 : n / 2 ^ (12 - i) % 2 = 1 := by omega
  unfold pwS
  rw [show 13 - (i + 1) = 12 - i by omega, e, h2, Nat.pow_add, Nat.two_mul, Nat.pow_add, Nat.pow_one]
theorem two_pw (e : Nat) : 2 ^ e < pw (e + 1) := by
  induction e with
  | zero => simp [pw]
  | succ e ih => rw [Nat.pow_succ, uG]; omega
theorem len_two (e : Nat) : (ofNat (2 ^ e)).length ≤ e + 1 := qM (two_pw e)
theorem len_pwS {n : Nat} (h : n ≤ 4096) (i : Nat) : (ofNat (pwS n i)).length ≤ 4097 := by
  have := len_two (n / 2 ^ (13 - i))
  have h2 : n / 2 ^ (13 - i) ≤ n := Nat.div_le_self _ _
  unfold pwS; omega
theorem iok_two {n : Nat} (h : n ≤ 4096) : vO (jZ ((2 ^ n : Nat) : Int)) ((2 ^ n : Nat) : Int) 4097 := yJ (by
  unfold gN; rw [Int.natAbs_natCast]; have := len_two n; omega)
theorem iok_m {m : Int} {i : Nat} (hm : m = ((2 ^ i : Nat) : Int)) (h : i ≤ 4096) : vO (jZ m) m 4097 := hm ▸ iok_two h
theorem two_step {m : Int} {i : Nat} (hm : m = ((2 ^ i : Nat) : Int)) : m * 2 = ((2 ^ (i + 1) : Nat) : Int) := by
  rw [hm, Nat.pow_succ]; simp
theorem g2 : kS (jZ 2) = [2] := by
  rw [grpI_ofZ]
  show ofNat 2 = [2]
  rw [gC (by decide), show 2 / 1000000000 = 0 from rfl, qU]
theorem g2n : ofNat (Int.natAbs 2) = [2] := by rw [← grpI_ofZ]; exact g2
theorem g2z : ofNat (Int.natAbs (jY (jZ 2))) = [2] := by rw [gV]; exact g2n
theorem g2len : (jZ 2).gs.length = 1 := by
  show (ofNat 2).length = 1
  rw [show ofNat 2 = [2] from g2n]; rfl
theorem neg2 : (jZ 2).neg = false := rfl
theorem len_sq {n i : Nat} {out : List Nat} (hv : val out = pwS n i) (hn : n ≤ 4096) (hi : i < 13) : (ofNat (val out * val out)).length ≤ 8195 := by
  rw [hv]
  unfold pwS
  rw [← Nat.pow_add]
  have := len_two (n / 2 ^ (13 - i) + n / 2 ^ (13 - i))
  have h2 : n / 2 ^ (13 - i) ≤ n := Nat.div_le_self _ _
  omega
theorem mk_two (n : Nat) : vS false (val (ofNat (pwS n 13))) = jZ ((2 ^ n : Nat) : Int) := by
  rw [kB, pwS_13]
  unfold jZ
  rw [Int.natAbs_natCast, decide_eq_false (Int.not_lt.2 (Int.natCast_nonneg _))]
def logI (z : Int) : Int := if z = 0 then -1 else ((Nat.log2 z.natAbs : Nat) : Int)
def logN (v : Nat) : Int := if v = 0 then -1 else ((Nat.log2 v : Nat) : Int)
theorem logI_N {z : Int} : logI z = logN z.natAbs := by
  unfold logI logN
  by_cases h : z = 0
  · subst h; rfl
  · rw [if_neg h, if_neg (by omega)]
theorem len_gt1 {v : Nat} (h : (1 : Int) < (((ofNat v).length : Nat) : Int)) : 1000000000 ≤ v := by
  by_cases hh : v < pw 1
  · have := qM hh; omega
  · have e : pw 1 = 1000000000 := by simp [pw]
    omega
theorem len_le1 {v : Nat} (h : ¬ (1 : Int) < (((ofNat v).length : Nat) : Int)) : (ofNat v).getD 0 0 = v ∧ v < 1000000000 := by
  have h1 : v < pw (ofNat v).length := mD v
  by_cases h0 : v = 0
  · subst h0; rw [qU]; exact ⟨rfl, by decide⟩
  · have h2 := nN (n := v) (by omega)
    have e : (ofNat v).length = 1 := by omega
    rw [e] at h1
    have e1 : pw 1 = 1000000000 := by simp [pw]
    rw [e1] at h1
    refine ⟨?_, h1⟩
    rw [gC h0]
    show v % 1000000000 = v
    exact Nat.mod_eq_of_lt h1
theorem log_29 {v : Nat} (h : 1000000000 ≤ v) : logN v = logN (v / 536870912) + 29 := by
  unfold logN
  rw [if_neg (by omega), if_neg (by omega), log2_step (by omega)]; omega
theorem log_1 {v : Nat} (h : 0 < v) : logN v = logN (v / 2) + 1 := by
  unfold logN
  by_cases h1 : v = 1
  · subst h1; decide
  · rw [if_neg (by omega), if_neg (by omega), log2_half (by omega)]; omega
theorem log_cap {v n : Nat} (h : (ofNat v).length ≤ n) : (Nat.log2 v : Int) ≤ 30 * (n : Int) := by
  have h1 := mD v
  by_cases h0 : v = 0
  · subst h0; rw [show Nat.log2 0 = 0 from by decide]; omega
  · have h2 : pw (ofNat v).length ≤ 2 ^ (30 * n) := by
      have e : pw (ofNat v).length ≤ pw n := by unfold pw; exact Nat.pow_le_pow_right (by decide) h
      refine Nat.le_trans e ?_
      rw [Nat.pow_mul]
      unfold pw; exact Nat.pow_le_pow_left (show 1000000000 ≤ 2 ^ 30 by decide) n
    have := (Nat.log2_lt h0).2 (Nat.lt_of_lt_of_le h1 h2)
    omega
def kH (z : Int) : Int := ((fU z.toNat : Nat) : Int)
theorem root_end {z l h : Int} (z0 : 0 ≤ z) (l0 : 0 ≤ l) (h1 : l * l ≤ z) (h2 : z < h * h) (hlh : h ≤ l + 1) (hh : l < h) : l = kH z := by
  obtain ⟨x, rfl⟩ := Int.eq_ofNat_of_zero_le z0
  obtain ⟨a, rfl⟩ := Int.eq_ofNat_of_zero_le l0
  obtain ⟨b, rfl⟩ := Int.eq_ofNat_of_zero_le (show 0 ≤ h by omega)
  unfold kH
  rw [Int.toNat_natCast]
  have e1 : a * a ≤ x := by have : ((a * a : Nat) : Int) ≤ (x : Int) := by simpa using h1
                            omega
  have e2 : x < b * b := by have : (x : Int) < ((b * b : Nat) : Int) := by simpa using h2
                            omega
  rw [← bis_end e1 e2 (by omega)]
theorem rootI_0 (z : Int) : 0 ≤ kH z := Int.natCast_nonneg _
theorem rootI_le {z : Int} (h : 0 ≤ z) : kH z * kH z ≤ z := by
  obtain ⟨x, rfl⟩ := Int.eq_ofNat_of_zero_le h
  have := rootN_le x
  unfold kH; rw [Int.toNat_natCast]
  have e : ((fU x * fU x : Nat) : Int) ≤ (x : Int) := by omega
  simpa using e
theorem lt_rootI {z : Int} (h : 0 ≤ z) : z < (kH z + 1) * (kH z + 1) := by
  obtain ⟨x, rfl⟩ := Int.eq_ofNat_of_zero_le h
  have := lt_rootN x
  unfold kH; rw [Int.toNat_natCast]
  have e : (x : Int) < (((fU x + 1) * (fU x + 1) : Nat) : Int) := by omega
  simpa using e
theorem rootI_self {z : Int} (h : 0 ≤ z) : kH z ≤ z := by
  have h1 := rootI_le h
  have h2 := rootI_0 z
  by_cases h3 : kH z = 0
  · omega
  · have : kH z * 1 ≤ kH z * kH z := Int.mul_le_mul_of_nonneg_left (by omega) h2
    omega
theorem yO {z : Int} {n : Nat} {x : jD} (h : 0 ≤ z) (hz : vO x z n) : vO (jZ (kH z)) (kH z) n := yJ (Nat.le_trans (gY (by have := rootI_0 z; have := rootI_self h; omega)) hz.ln)
theorem half_bd {l h : Int} (hl : 0 ≤ l) (h1 : 1 < h - l) : l < (l + h).fdiv 2 ∧ (l + h).fdiv 2 < h := by
  rw [Int.fdiv_eq_ediv_of_nonneg _ (by decide)]; omega
theorem lenZ_mid {l h m : Int} {n : Nat} (hl : 0 ≤ l) (h1 : l ≤ m) (h2 : m ≤ h) (hh : gN h ≤ n) : gN m ≤ n := Nat.le_trans (gY (by omega)) hh
theorem root_top {z : Int} (h : 0 ≤ z) : z < (z + 1) * (z + 1) := by
  have : (z + 1) * 1 ≤ (z + 1) * (z + 1) := Int.mul_le_mul_of_nonneg_left (by omega) (by omega)
  omega
theorem root_pow {z : Int} (h : 0 < z) : z < ((2 ^ (Nat.log2 z.natAbs / 2 + 1) : Nat) : Int) * ((2 ^ (Nat.log2 z.natAbs / 2 + 1) : Nat) : Int) := by
  obtain ⟨x, rfl⟩ := Int.eq_ofNat_of_zero_le (Int.le_of_lt h)
  have := log_bound (x := x) (by omega)
  rw [Int.natAbs_natCast]
  have e : (x : Int) < ((2 ^ (Nat.log2 x / 2 + 1) * 2 ^ (Nat.log2 x / 2 + 1) : Nat) : Int) := by omega
  simpa using e
theorem nw_val (X : Nat) (r : List Nat) : val (ofNat (val (ofNat (val r + val (ofNat (val (ofNat X) / val r)))) / 2)) = (val r + X / val r) / 2 := by
  rw [kB, kB, kB, kB]
theorem val_app (a b : List Nat) : val (a ++ b) = val a + pw a.length * val b := by
  induction a with
  | nil => simp [val, pw]
  | cons d a ih =>
    show d + 1000000000 * val (a ++ b) = d + 1000000000 * val a + pw (a.length + 1) * val b
    rw [ih, uG, Nat.mul_add, Nat.mul_assoc]; omega
theorem val_zeros (n : Nat) : val (List.replicate n 0) = 0 := by
  induction n with
  | zero => rfl
  | succ n ih => rw [List.replicate_succ]; show 0 + 1000000000 * val (List.replicate n 0) = 0; rw [ih]
theorem nw_start (n : Nat) : val (List.replicate n 0 ++ [1]) = pw n := by
  rw [val_app, val_zeros, List.length_replicate]
  show 0 + pw n * (1 + 1000000000 * 0) = pw n
  omega
theorem nw_cano (n : Nat) : xU (List.replicate n 0 ++ [1]) := by
  refine ⟨fun d hd => ?_, ?_⟩
  · rcases List.mem_append.1 hd with h | h
    · rw [(List.mem_replicate.1 h).2]; decide
    · rw [List.mem_singleton.1 h]; decide
  · unfold Top
    rw [List.getD_eq_getElem?_getD]
    simp
theorem nw_top {X : Nat} : X < (val (List.replicate (((ofNat X).length + 1) / 2) 0 ++ [1]) + 1) * (val (List.replicate (((ofNat X).length + 1) / 2) 0 ++ [1]) + 1) := by
  rw [nw_start]
  have h := mD X
  have h2 : pw (ofNat X).length ≤ pw (((ofNat X).length + 1) / 2 + ((ofNat X).length + 1) / 2) := by unfold pw; exact Nat.pow_le_pow_right (by decide) (by omega)
  rw [pw_add] at h2
  have h3 : pw (((ofNat X).length + 1) / 2) * pw (((ofNat X).length + 1) / 2) ≤ (pw (((ofNat X).length + 1) / 2) + 1) * (pw (((ofNat X).length + 1) / 2) + 1) := Nat.mul_le_mul (by omega) (by omega)
  omega
theorem cmpI_ge0 {a b : Int} : 0 ≤ uC a b ↔ b ≤ a := by
  unfold uC
  by_cases h : a < b
  · rw [if_pos h]; omega
  · rw [if_neg h]; split <;> omega
theorem cmpI_gt0 {a b : Int} : 0 < uC a b ↔ b < a := by
  unfold uC
  by_cases h : a < b
  · rw [if_pos h]; omega
  · rw [if_neg h]; split <;> omega
theorem cmpI_le0 {a b : Int} : uC a b ≤ 0 ↔ a ≤ b := by
  unfold uC
  by_cases h : a < b
  · rw [if_pos h]; omega
  · rw [if_neg h]; split <;> omega
theorem nw_end {z : Int} {r : List Nat} (z0 : 0 ≤ z) (h0 : 0 < val r) (hu : z.natAbs < (val r + 1) * (val r + 1)) (h : val r ≤ (val r + z.natAbs / val r) / 2) : vS false (val r) = jZ (kH z) := by
  have e := newton_root h0 hu h
  obtain ⟨x, rfl⟩ := Int.eq_ofNat_of_zero_le z0
  rw [Int.natAbs_natCast] at e
  unfold kH jZ
  rw [Int.toNat_natCast, ← e, Int.natAbs_natCast, decide_eq_false (by omega)]
theorem lg_gt {z : Int} (z0 : 0 ≤ z) (h : 0 < logI z) : 0 < z ∧ logI z = ((z.natAbs.log2 : Nat) : Int) := by
  unfold logI at h ⊢
  by_cases e : z = 0
  · rw [if_pos e] at h; omega
  · rw [if_neg e]; exact ⟨by omega, rfl⟩
theorem two_pos (n : Nat) : (0 : Int) < ((2 ^ n : Nat) : Int) := by
  have := Nat.pow_pos (n := n) (show 0 < 2 by decide)
  exact Int.natCast_pos.2 this
theorem two_cap {n : Nat} (h : n ≤ 4096) : gN ((2 ^ n : Nat) : Int) ≤ 4100 := Nat.le_trans (iok_two h).ln (by decide)
theorem neg_abs {z : Int} (z0 : 0 ≤ z) (h : (jZ z).neg = true) : False := by
  have : (decide (z < 0) && z.natAbs != 0) = true := h
  rw [decide_eq_false (show ¬ z < 0 by omega)] at this
  cases this
theorem sq_gt {m z : Int} (h : ¬ uC (m * m) z ≤ 0) : z < m * m := by rw [cmpI_le0] at h; omega
theorem root_nil {z : Int} (h : (((ofNat z.natAbs).length : Nat) : Int) = ((0 : Nat) : Int)) : jZ (kH z) = jD.mk false [] := by
  have e : ofNat z.natAbs = [] := List.eq_nil_of_length_eq_zero (by omega)
  have e2 := eX.1 e
  have e3 : z = 0 := by omega
  subst e3
  have : kH 0 = 0 := by
    have := rootI_self (z := 0) (by decide); have := rootI_0 0; omega
  rw [this]
  show jD.mk (decide ((0 : Int) < 0) && (Int.natAbs 0 != 0)) (ofNat (Int.natAbs 0)) = _
  rw [show Int.natAbs 0 = 0 from rfl, qU]; rfl
theorem nw_ok (X : Nat) {r : List Nat} (hr : 0 < val r) (hX : 0 < X) (hc : ¬ (0 : Int) ≤ uC (((val (ofNat (val (ofNat (val r + val (ofNat (val (ofNat X) / val r)))) / 2)) : Nat)) : Int) ((val r : Nat) : Int)) :
    xU (ofNat (val (ofNat (val r + val (ofNat (val (ofNat X) / val r)))) / 2)) ∧ 0 < val (ofNat (val (ofNat (val r + val (ofNat (val (ofNat X) / val r)))) / 2)) ∧ X < (val (ofNat (val (ofNat (val r + val (ofNat (val (ofNat X) / val r)))) / 2)) + 1) * (val (ofNat (val (ofNat (val r + val (ofNat (val (ofNat X) / val r)))) / 2)) + 1) ∧ val (ofNat (val (ofNat (val r + val (ofNat (val (ofNat X) / val r)))) / 2)) < val r := by
  rw [cmpI_ge0, nw_val] at hc
  refine ⟨kW _, ?_, ?_, ?_⟩
  · rw [nw_val]; exact newton_pos hX hr
  · rw [nw_val]; exact newton_up hr
  · rw [nw_val]; omega
theorem nw_stop {X : Nat} {r : List Nat} (hc : (0 : Int) ≤ uC (((val (ofNat (val (ofNat (val r + val (ofNat (val (ofNat X) / val r)))) / 2)) : Nat)) : Int) ((val r : Nat) : Int)) : val r ≤ (val r + X / val r) / 2 := by
  rw [cmpI_ge0, nw_val] at hc; omega
theorem can_len {r s : List Nat} (hr : xU r) (hs : xU s) (h : val r ≤ val s) : r.length ≤ s.length := by
  rw [can_eq hr, can_eq hs]; exact uI h
theorem nw_lens {X : Nat} {r : List Nat} (hx : (ofNat X).length ≤ 400) (hr : r.length ≤ 400) (hc : xU r) : (ofNat (val (ofNat X) / val r)).length ≤ 400 ∧ (ofNat (val r + val (ofNat (val (ofNat X) / val r)))).length ≤ 401 ∧ (ofNat (val (ofNat (val r + val (ofNat (val (ofNat X) / val r)))) / 2)).length ≤ 401 := by
  have h1 : (ofNat (val (ofNat X) / val r)).length ≤ 400 := by
    rw [kB]; exact Nat.le_trans (uI (Nat.div_le_self _ _)) hx
  have h2 : (ofNat (val r + val (ofNat (val (ofNat X) / val r)))).length ≤ 401 := by
    apply qM
    have a1 := vI hc.1
    have a2 := mD (val (ofNat X) / val r)
    have a3 : pw r.length ≤ pw 400 := yL hr
    have a4 : pw (ofNat (val (ofNat X) / val r)).length ≤ pw 400 := yL h1
    rw [kB (val (ofNat X) / val r), uG]
    omega
  refine ⟨h1, h2, ?_⟩
  have h3 := kB (val r + val (ofNat (val (ofNat X) / val r)))
  exact Nat.le_trans (uI (by rw [h3]; exact Nat.div_le_self _ _)) h2
theorem xH {k : Nat} (h : k ≤ 512) : vO (jZ ((2 ^ k : Nat) : Int)) ((2 ^ k : Nat) : Int) 20 := yJ (by
  rw [nU, Int.natAbs_natCast]
  refine Nat.lt_of_le_of_lt (Nat.pow_le_pow_right (by decide) h) ?_
  unfold pw
  decide +kernel)
theorem vX {k : Nat} (h : k ≤ 512) : QL (((2 ^ k : Nat) : Int) : Rat) 20 := yR (xH h).ln (by decide)
def vF (x : Rat) : Int := x.num.fdiv ((x.den : Nat) : Int)
theorem zL {x : Rat} {n k : Nat} (h : QL x n) (hk : n + 1 ≤ k) : vO (jZ (vF x)) (vF x) k := yJ (Nat.le_trans (lenZ_fdiv _ _) (Nat.le_trans (Nat.succ_le_succ h.1) hk))
theorem flZ_floor (x : Rat) : vF x = x.floor := by
  unfold vF; rw [Rat.floor_def, Int.fdiv_eq_ediv_of_nonneg _ (by omega)]
theorem gG {x : Rat} (h : 0 ≤ x) : 0 ≤ vF x := by
  rw [flZ_floor, Rat.le_floor_iff]; exact h
theorem xJ {x : Rat} {k : Nat} (h : 0 ≤ x) : 0 ≤ x * ((((2 ^ k : Nat) : Int) : Rat) * (((2 ^ k : Nat) : Int) : Rat)) := by
  have h2 : (0 : Rat) ≤ (((2 ^ k : Nat) : Int) : Rat) := by
    rw [← Rat.intCast_zero]; exact Rat.intCast_le_intCast.2 (Int.le_of_lt (two_pos k))
  exact Rat.mul_nonneg h (Rat.mul_nonneg h2 h2)
theorem sgn_nn {x : Rat} (h : 0 ≤ x) : ¬ (dA x) < 0 := by
  unfold dA
  have h2 : 0 ≤ x.num := Rat.num_nonneg.2 h
  unfold qY
  by_cases e : x.num = 0
  · rw [if_pos e]; decide
  · rw [if_neg e, if_neg (by omega)]; decide
def mW (y : Rat) : Int := if ((kH (vF y) * kH (vF y) : Int) : Rat) < y then kH (vF y) + 1 else kH (vF y)
theorem eP {y : Rat} {n k : Nat} (h : 0 ≤ vF y) (hz : vO (jZ (vF y)) (vF y) n) (hk : n + 1 ≤ k) (hn : 1 ≤ n) : vO (jZ (mW y)) (mW y) k := yJ (by
  have h1 := (yO h hz).ln
  unfold mW
  by_cases e : ((kH (vF y) * kH (vF y) : Int) : Rat) < y
  · rw [if_pos e]
    exact fM h1 (zB (z := 1) (by decide)) (by omega)
  · rw [if_neg e]; omega)
theorem cmpQ_ltR {a b : Rat} : xC a b < 0 ↔ a < b := by
  unfold xC
  by_cases h : a < b
  · rw [if_pos h]; exact ⟨fun _ => h, fun _ => by decide⟩
  · rw [if_neg h]; refine ⟨fun hh => ?_, fun hh => absurd hh h⟩
    by_cases h2 : b < a
    · rw [if_pos h2] at hh; exact absurd hh (by decide)
    · rw [if_neg h2] at hh; exact absurd hh (by decide)
theorem cmpQ_eqR {a b : Rat} : xC a b = 0 ↔ a = b := by
  unfold xC
  by_cases h : a < b
  · rw [if_pos h]; exact ⟨fun hh => absurd hh (by decide), fun hh => absurd h (by rw [hh]; exact Rat.lt_irrefl)⟩
  · rw [if_neg h]
    by_cases h2 : b < a
    · rw [if_pos h2]; exact ⟨fun hh => absurd hh (by decide), fun hh => absurd h2 (by rw [hh]; exact Rat.lt_irrefl)⟩
    · rw [if_neg h2]; exact ⟨fun _ => Rat.le_antisymm (Rat.not_lt.1 h2) (Rat.not_lt.1 h), fun _ => rfl⟩
theorem upI_t {y : Rat} (h : xC ((kH (vF y) * kH (vF y) : Int) : Rat) y < 0) : mW y = kH (vF y) + 1 := if_pos (cmpQ_ltR.1 h)
theorem upI_f {y : Rat} (h : ¬ xC ((kH (vF y) * kH (vF y) : Int) : Rat) y < 0) : mW y = kH (vF y) := if_neg (fun hh => h (cmpQ_ltR.2 hh))
theorem p2_ne (k : Nat) : (((2 ^ k : Nat) : Int) : Rat) ≠ 0 := by
  intro h
  have : ((2 ^ k : Nat) : Int) = 0 := by rw [← Rat.intCast_zero] at h; exact Rat.intCast_inj.1 h
  have := two_pos k; omega
theorem divP (a : Int) (k : Nat) : Rat.divInt a ((2 ^ k : Nat) : Int) = ((a : Int) : Rat) / (((2 ^ k : Nat) : Int) : Rat) := by rw [Rat.divInt_eq_div]
theorem root_q {x : Rat} {k : Nat} {r : Int} : Rat.divInt r ((2 ^ k : Nat) : Int) * Rat.divInt r ((2 ^ k : Nat) : Int) = x ↔ ((r * r : Int) : Rat) = x * ((((2 ^ k : Nat) : Int) : Rat) * (((2 ^ k : Nat) : Int) : Rat)) := by
  have hp := p2_ne k
  rw [divP, Rat.intCast_mul]
  generalize (((2 ^ k : Nat) : Int) : Rat) = P at hp
  generalize ((r : Int) : Rat) = R
  constructor
  · intro h; rw [← h]; grind
  · intro h
    have : R / P * (R / P) = (R * R) / (P * P) := by grind
    rw [this, h]; grind
theorem upI_q {x : Rat} {k : Nat} (h : xC (Rat.divInt (kH (vF (x * ((((2 ^ k : Nat) : Int) : Rat) * (((2 ^ k : Nat) : Int) : Rat))))) ((2 ^ k : Nat) : Int) * Rat.divInt (kH (vF (x * ((((2 ^ k : Nat) : Int) : Rat) * (((2 ^ k : Nat) : Int) : Rat))))) ((2 ^ k : Nat) : Int)) x = 0) : mW (x * ((((2 ^ k : Nat) : Int) : Rat) * (((2 ^ k : Nat) : Int) : Rat))) = kH (vF (x * ((((2 ^ k : Nat) : Int) : Rat) * (((2 ^ k : Nat) : Int) : Rat)))) := by
  rw [cmpQ_eqR, root_q] at h
  exact if_neg (by rw [h]; exact Rat.lt_irrefl)
theorem upI_n {x : Rat} {k : Nat} (x0 : 0 ≤ x) (h : ¬ xC (Rat.divInt (kH (vF (x * ((((2 ^ k : Nat) : Int) : Rat) * (((2 ^ k : Nat) : Int) : Rat))))) ((2 ^ k : Nat) : Int) * Rat.divInt (kH (vF (x * ((((2 ^ k : Nat) : Int) : Rat) * (((2 ^ k : Nat) : Int) : Rat))))) ((2 ^ k : Nat) : Int)) x = 0) : mW (x * ((((2 ^ k : Nat) : Int) : Rat) * (((2 ^ k : Nat) : Int) : Rat))) = kH (vF (x * ((((2 ^ k : Nat) : Int) : Rat) * (((2 ^ k : Nat) : Int) : Rat)))) + 1 := by
  rw [cmpQ_eqR, root_q] at h
  refine if_pos ?_
  have hy := xJ (k := k) x0
  revert h hy
  generalize x * ((((2 ^ k : Nat) : Int) : Rat) * (((2 ^ k : Nat) : Int) : Rat)) = y
  intro h hy
  have h1 := rootI_le (gG hy)
  have h2 : ((vF y : Int) : Rat) ≤ y := by rw [flZ_floor]; exact Rat.floor_le y
  have h3 : ((kH (vF y) * kH (vF y) : Int) : Rat) ≤ y := Rat.le_trans (Rat.intCast_le_intCast.2 h1) h2
  exact Rat.lt_of_le_of_ne h3 h
theorem p2_pos (k : Nat) : (0 : Rat) < (((2 ^ k : Nat) : Int) : Rat) := by
  rw [← Rat.intCast_zero]; exact Rat.intCast_lt_intCast.2 (two_pos k)
theorem divP_le {a : Int} {k : Nat} {c : Rat} (h : ((a : Int) : Rat) ≤ c * (((2 ^ k : Nat) : Int) : Rat)) : Rat.divInt a ((2 ^ k : Nat) : Int) ≤ c := by
  rw [divP, ← Rat.not_lt, Rat.lt_div_iff (p2_pos k), Rat.not_lt]; exact h
theorem flZ_le (x : Rat) : ((vF x : Int) : Rat) ≤ x := by rw [flZ_floor]; exact Rat.floor_le x
theorem divP_mul (a : Int) (k : Nat) : Rat.divInt a ((2 ^ k : Nat) : Int) * (((2 ^ k : Nat) : Int) : Rat) = ((a : Int) : Rat) := by
  rw [divP, Rat.div_mul_cancel (p2_ne k)]
theorem rt_lo {y : Rat} (hy : 0 ≤ y) : ((kH (vF y) * kH (vF y) : Int) : Rat) ≤ y := Rat.le_trans (Rat.intCast_le_intCast.2 (rootI_le (gG hy))) (flZ_le y)
theorem upI_nn (y : Rat) : 0 ≤ mW y := by
  have := rootI_0 (vF y)
  unfold mW; split <;> omega
theorem rt_hi {y : Rat} (hy : 0 ≤ y) : y ≤ ((mW y * mW y : Int) : Rat) := by
  unfold mW
  by_cases e : ((kH (vF y) * kH (vF y) : Int) : Rat) < y
  · rw [if_pos e]
    have h1 := lt_rootI (gG hy)
    have h2 : y < ((vF y + 1 : Int) : Rat) := by rw [flZ_floor]; exact Rat.lt_floor_add_one y
    exact Rat.le_trans (Rat.le_of_lt h2) (Rat.intCast_le_intCast.2 h1)
  · rw [if_neg e]; exact Rat.not_lt.1 e
theorem sq_int {a b : Int} (b0 : 0 ≤ b) (h : a * a ≤ b * b) : a ≤ b := by
  by_cases hh : a ≤ b
  · exact hh
  · have h1 : b < a := by omega
    have h2 : b * b < a * a := by
      have q1 : b * b ≤ b * a := Int.mul_le_mul_of_nonneg_left (by omega) b0
      have q2 : b * a < a * a := Int.mul_lt_mul_of_pos_right h1 (by omega)
      omega
    omega
theorem rt_valid {p q : Rat} (k : Nat) (hp : 0 ≤ p) (h : p ≤ q) : Rat.divInt (kH (vF (p * ((((2 ^ k : Nat) : Int) : Rat) * (((2 ^ k : Nat) : Int) : Rat))))) ((2 ^ k : Nat) : Int) ≤ Rat.divInt (mW (q * ((((2 ^ k : Nat) : Int) : Rat) * (((2 ^ k : Nat) : Int) : Rat)))) ((2 ^ k : Nat) : Int) := by
  refine divP_le ?_
  rw [divP_mul]
  refine Rat.intCast_le_intCast.2 (sq_int (upI_nn _) (Rat.intCast_le_intCast.1 ?_))
  have hq : 0 ≤ q := Rat.le_trans hp h
  have hPP : (0 : Rat) ≤ (((2 ^ k : Nat) : Int) : Rat) * (((2 ^ k : Nat) : Int) : Rat) := Rat.mul_nonneg (Rat.le_of_lt (p2_pos k)) (Rat.le_of_lt (p2_pos k))
  exact Rat.le_trans (rt_lo (xJ hp)) (Rat.le_trans (Rat.mul_le_mul_of_nonneg_right h hPP) (rt_hi (xJ hq)))
theorem div_sq (r : Int) (k : Nat) : Rat.divInt r ((2 ^ k : Nat) : Int) * Rat.divInt r ((2 ^ k : Nat) : Int) * ((((2 ^ k : Nat) : Int) : Rat) * (((2 ^ k : Nat) : Int) : Rat)) = ((r * r : Int) : Rat) := by
  have h := divP_mul r k
  generalize Rat.divInt r ((2 ^ k : Nat) : Int) = D at h
  generalize (((2 ^ k : Nat) : Int) : Rat) = P at h
  rw [Rat.intCast_mul, ← h]; grind
theorem pp_pos (k : Nat) : (0 : Rat) < (((2 ^ k : Nat) : Int) : Rat) * (((2 ^ k : Nat) : Int) : Rat) := Rat.mul_pos (p2_pos k) (p2_pos k)
end Go.Fid
