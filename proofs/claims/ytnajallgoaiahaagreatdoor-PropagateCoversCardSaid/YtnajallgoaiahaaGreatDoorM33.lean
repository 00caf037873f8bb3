/- Part 33 of a proof: rules, plain facts, and functions walked. -/
import Derived.Test.YtnajallgoaiahaaGreatDoorM26
import Derived.Test.YtnajallgoaiahaaGreatDoorM32
import Derived.Test.YtnajallgoaiahaaGreatDoorM21
import Derived.Test.YtnajallgoaiahaaGreatDoorM11
namespace Go.Proofs.YtnajallgoaiahaaGreatDoor
open Go.Fid
set_option maxRecDepth 4000
set_option linter.unusedVariables false
set_option linter.unusedSimpArgs false
theorem cb13 : callB Tryz.prog 13 = true := by kernel_rfl
theorem cb68 : callB Tryz.prog 68 = true := by kernel_rfl
theorem cb71 : callB Tryz.prog 71 = true := by kernel_rfl
theorem cb74 : callB Tryz.prog 74 = true := by kernel_rfl
theorem p_pts (xs : List Rat) (hx : ∀ q ∈ xs, QL q 1048576) (hxb : xs.length ≤ 1000000) : jW Tryz.prog 68 [(.sl 45 4 (List.map jL (List.map jS xs)))] (.sl 61 8 (List.map jG (List.map kF (List.map gX xs)))) := by
 refine jM Tryz.func68 rfl cb68 rfl ?_
 show qJ _ _ _ _ ⟨[(0, (vl 45 4 jL (List.map jS xs)))], []⟩
 refine jB <| kx [] [] (zE (aK 61 8) <| zZ) ?_
 refine jB <| kx [(3, (.own 0 61 8 0))] [(0, some (qD jG []))] (zO 0 61 8 <| zZ) ?_
 refine jB <| jB <| kx [(6, (vl 45 4 jL (List.map jS xs))), (7, (jN xs.length)), (8, (jN 0))] [] (zM <| zE (oLn uL xs.length) <| zM <| zZ) ?_
 refine jI <| kU (α := Nat × List kD) (fun (i, o) => ⟨[(3, (.own 0 61 8 o.length)), (6, (vl 45 4 jL (List.map jS xs))), (7, (jN xs.length)), (8, (jN i))], [(0, some (qD jG o))]⟩) (fun (i, o) => i ≤ xs.length ∧ o = (xs.take i).map (fun q => kF (gX q))) (fun (i, o) => xs.length - i) (0, []) wk ⟨Nat.zero_le _, by simp⟩ ?_
 rintro ⟨i, o⟩ ⟨hi, ho⟩
 have hol : o.length = i := by rw [ho, List.length_map, List.length_take]; omega
 refine jB <| kx [(9, (vb (decide (((i : Nat) : Int) < ((xs.length : Nat) : Int)))))] [] (zE vW <| zZ) ?_
 refine jB <| jK rfl (fun h1 => ?_) (fun h1 => ?_)
 ·replace h1 := of_decide_eq_true h1
  refine jF <| jB <| jI <| jB <| kx [(5, (.ref 1 0))] [(1, some (bx (jL (jS (xs.getD i 0)))))] (zE (oXm uL jS i 0) <| zE (gH jO) <| zH (qS 1 qO qR) <| zT (qF jO) <| zZ) ?_
  refine kf [(3, (.own 0 61 8 ((o ++ [(kD.mk (jS (xs.getD i 0)) (jS (xs.getD i 0)))]).length)))] [(0, some (qD jG (o ++ [(kD.mk (jS (xs.getD i 0)) (jS (xs.getD i 0)))])))] (zM <| zR (kK jO) <| zR (kK jO) <| zE (fM pl61 uI uP) <| zE (nU yR uI uP) <| zAS jG o [(kD.mk (jS (xs.getD i 0)) (jS (xs.getD i 0)))] rfl yR uI by61 <| zM <| zF) ?_
  refine kx [(8, (jN (i + 1)))] [] (zE (vJ (i + 1)) <| zM <| zZ) ?_
  exact ⟨(i + 1, o ++ [kF (gX (xs.getD i 0))]), wk, ⟨by omega, by rw [ho]; exact fX (f := fun q => kF (gX q)) (by omega)⟩, (by first | omega | (dsimp only; omega))⟩
 ·replace h1 := of_decide_eq_false h1
  refine kP <| jB <| kx [(2, (.own 0 61 8 o.length))] [] (zM <| zM <| zZ) ?_
  refine kA (xF (t := 2) (k := 0) (es := List.map jG o) rfl rfl (xK _ _ (fun _ => rfl)) (qZ _ _ rfl) (yF jG o (fun _ => rfl) rfl)) ?_
  refine jH ⟨_, (.tmp (d := (.sl 61 8 (List.map jG o))) rfl .nil), ?_⟩
  rw [ho, show i = xs.length by omega, List.take_length, show List.map (fun q => kF (gX q)) xs = List.map kF (List.map gX xs) from (by rw [List.map_map]; rfl)]; rfl
theorem p_val (bv : List R2) (hbx : ∀ x ∈ bv, GL 1048576 x) (hbl : bv.length ≤ 1000000) : jW Tryz.prog 71 [(.sl 61 8 (List.map jG (List.map kF bv)))] (.val (.bool (true))) := by
 refine jM Tryz.func71 rfl cb71 rfl ?_
 show qJ _ _ _ _ ⟨[(0, (vl 61 8 jG (List.map kF bv)))], []⟩
 refine jB <| kx [] [] (zM <| zZ) ?_
 refine jB <| jB <| kx [(5, (vl 61 8 jG (List.map kF bv))), (6, (jN bv.length)), (7, (jN 0))] [] (zM <| zE (oLn yR bv.length) <| zM <| zZ) ?_
 refine jI <| kU (α := Nat) (fun i => ⟨[(5, (vl 61 8 jG (List.map kF bv))), (6, (jN bv.length)), (7, (jN i))], []⟩) (fun i => i ≤ bv.length) (fun i => bv.length - i) 0 wk (Nat.zero_le _) ?_
 rintro i hi
 refine jB <| kx [(8, (vb (decide (((i : Nat) : Int) < ((bv.length : Nat) : Int)))))] [] (zE vW <| zZ) ?_
 refine jB <| jK rfl (fun h1 => ?_) (fun h1 => ?_)
 ·replace h1 := of_decide_eq_true h1
  refine jF <| jB <| jI <| jB <| kx [(4, (.ref 0 0))] [(0, some (bx (jG (kF (bv.getD i z2)))))] (zE (oXm yR kF i z2) <| zE (gH kS) <| zN (qS 0 uI uP) <| zT (qF kS) <| zZ) ?_
  refine jB <| kx [(13, (vb false))] [] (zR (kK kS) <| zE (kG (by have h := i_valid (kF (bv.getD i z2)) (nT (⟨uE (jR (kM (xP hbx (by decide) i).1) (by decide : 1048576 ≤ 1048576)), uE (jR (kM (xP hbx (by decide) i).2.1) (by decide : 1048576 ≤ 1048576))⟩) (by decide)); rw [show xB (kF (bv.getD i z2)) = true from yO (xP hbx (by decide) i).2.2] at h; exact h)) <| zE cE <| zZ) ?_
  refine kO ?_
  refine jF <| kx [(7, (jN (i + 1)))] [] (zE (vJ (i + 1)) <| zM <| zZ) ?_
  exact ⟨i + 1, wk, (by omega), (by first | omega | (dsimp only; omega))⟩
 ·replace h1 := of_decide_eq_false h1
  refine kP <| jB <| kx [(2, (vb true))] [] (zM <| zZ) ?_
  refine jH ⟨_, (.tmp (d := (.val (.bool (true)))) rfl .nil), ?_⟩
  rfl
theorem p_fit (m : List (List jJ)) (hm : nD 1048576 m) (n : Nat) (hr : dU m m.length (m.getD 0 []).length) : jW Tryz.prog 74 [(.sl 24 1 (List.map jY m)), (.val (.int .i64 (((n : Nat) : Int))))] (.val (.int .i64 ((((fitC m n) : Nat) : Int)))) := by
 have hmb := hr.r64
 have hm1 := hr.r1
 have hm0 := hr.c64
 let y1 := (jJ.mk (jE.mk false []) (jE.mk false []))
 refine jM Tryz.func74 rfl cb74 rfl ?_
 show qJ _ _ _ _ ⟨[(0, (vl 24 1 jY m)), (1, (jN n))], []⟩
 refine jB <| kx [] [] (zM <| zZ) ?_
 refine jB <| jB <| kx [(18, (vb ((((m.length : Nat) : Int) != ((n : Nat) : Int)) || ((((m.getD 0 []).length : Nat) : Int) != ((n : Nat) : Int)))))] [] ?_ ?_
 ·refine zM <| zE (zB dR) <| zM <| zE oNe <| zE (oV (vb (((m.length : Nat) : Int) != ((n : Nat) : Int))) (uA (by kernel_rfl))) <| ?_
  rcases hb1 : (((m.length : Nat) : Int) != ((n : Nat) : Int)) with _ | _
  ·replace hb1 := bne_eq_false_iff_eq.1 hb1
   exact zM <| zE (hZ dR 0 ([] : List (jJ))) <| zE (gK sh24) <| zE (zB uL (L := (m.getD 0 []))) <| zM <| zE oNe <| zE oPo <| zZ
  ·replace hb1 := bne_iff_ne.1 hb1
   exact zK <| zK <| zK <| zK <| zK <| zK <| zE cR <| zZ
 refine jK rfl (fun h2 => ?_) (fun h2 => ?_)
 ·refine jB <| kx [(4, (jN 4))] [] (zM <| zZ) ?_
  refine jH ⟨_, (.tmp (d := (.val (.int .i64 (4)))) rfl .nil), ?_⟩
  rw [fit_1 h2]; rfl
 ·have hs := fit_0 h2
  refine jF <| jB <| jB <| kx [(20, (jN m.length)), (21, (jN 0))] [] (zM <| zE (zB dR) <| zM <| zZ) ?_
  refine jI <| kU (α := Nat) (fun i => ⟨[(0, (vl 24 1 jY m)), (20, (jN m.length)), (21, (jN i))], []⟩) (fun i => i ≤ m.length ∧ symI m i) (fun i => m.length - i) 0 wk ⟨Nat.zero_le _, symI_0 m⟩ ?_
  rintro i ⟨hi, hsy⟩
  refine jB <| kx [(22, (vb (decide (((i : Nat) : Int) < ((m.length : Nat) : Int)))))] [] (zE vW <| zZ) ?_
  refine jB <| jK rfl (fun h3 => ?_) (fun h3 => ?_)
  ·replace h3 := of_decide_eq_true h3
   have hri := (hr.at (show i < m.length by omega)).1
   refine jF <| jB <| jI <| jB <| kx [(5, (jN i))] [] (zM <| zM <| zZ) ?_
   refine jB <| kx [(24, (jN i)), (25, (jN 0))] [] (zM <| zM <| zZ) ?_
   refine jI <| kU (α := Nat) (fun j => ⟨[(0, (vl 24 1 jY m)), (5, (jN i)), (20, (jN m.length)), (21, (jN i)), (24, (jN i)), (25, (jN j))], []⟩) (fun j => j ≤ i ∧ ∀ b, b < j → eqM m i b = true) (fun j => i - j) 0 wk ⟨Nat.zero_le _, fun b hb => by omega⟩ ?_
   rintro j ⟨hj, he⟩
   refine jB <| kx [(26, (vb (decide (((j : Nat) : Int) < ((i : Nat) : Int)))))] [] (zE vW <| zZ) ?_
   refine jB <| jK rfl (fun h4 => ?_) (fun h4 => ?_)
   ·replace h4 := of_decide_eq_true h4
    have hrj := (hr.at (show j < m.length by omega)).1
    refine jF <| jB <| jI <| jB <| kx [(6, (jN j))] [] (zM <| zM <| zZ) ?_
    refine jB <| kd [(43, (vb ((yE (kH ((m.getD i []).getD j y1)) (kH ((m.getD j []).getD i y1))) != 0)))] [] mo (wM <| wM <| wE (hZ dR i ([] : List (jJ))) <| wE (gK sh24) <| wM <| wE (hZ uL j y1 (L := (m.getD i []))) <| wE (gH jO) <| wM <| wM <| wE (hZ dR j ([] : List (jJ))) <| wE (gK sh24) <| wM <| wE (hZ uL i y1 (L := (m.getD j []))) <| wE (gH jO) <| wE (kG (mI ((m.getD i []).getD j y1) ((m.getD j []).getD i y1) (kH ((m.getD i []).getD j y1)) (kH ((m.getD j []).getD i y1)) (jR (xI (xM (d := []) hm (show i < m.length by omega)).1 (show j < (m.getD i []).length by omega)) (by decide)) (jR (xI (xM (d := []) hm (show j < m.length by omega)).1 (show i < (m.getD j []).length by omega)) (by decide)))) <| wE oNe <| wZ) ?_
    refine jK rfl (fun h5 => ?_) (fun h5 => ?_)
    ·replace h5 := bne_iff_ne.1 h5
     refine jB <| kx [(4, (jN 11))] [] (zM <| zZ) ?_
     refine jH ⟨_, (.tmp (d := (.val (.int .i64 (11)))) rfl .nil), ?_⟩
     rw [fit_11 hs (sym_no (i := i) (j := j) (by omega) (by omega) (eqm_f h5))]; rfl
    ·replace h5 := bne_eq_false_iff_eq.1 h5
     refine jF <| kx [(25, (jN (j + 1)))] [] (zE (vJ (j + 1)) <| zM <| zZ) ?_
     exact ⟨j + 1, wk, ⟨by omega, eqm_s he h5⟩, (by first | omega | (dsimp only; omega))⟩
   ·replace h4 := of_decide_eq_false h4
    have hsy2 := symI_s hsy (fun b hb => he b (by omega))
    refine kP <| kx [(21, (jN (i + 1)))] [] (zE (vJ (i + 1)) <| zM <| zZ) ?_
    exact ⟨i + 1, wk, ⟨by omega, hsy2⟩, (by first | omega | (dsimp only; omega))⟩
  ·replace h3 := of_decide_eq_false h3
   refine kP <| jB <| kx [(4, (jN 0))] [] (zM <| zZ) ?_
   refine jH ⟨_, (.tmp (d := (.val (.int .i64 (0)))) rfl .nil), ?_⟩
   obtain rfl : i = m.length := by omega
   rw [fit_ok hs (sym_yes hsy)]; rfl
theorem p_grd (t : List vB) (ht : TnsOk 1048576 t) (xs : List Rat) (hx : ∀ q ∈ xs, QL q 1048576) (hr : aS (List.map gX xs) t) (hxb : xs.length ≤ 1000000) : jW Tryz.prog 13 [(.sl 83 7 (List.map qP t)), (.sl 45 4 (List.map jL (List.map jS xs)))] (.tup [(.sl 45 4 (List.map jL (gE xs t))), (.val (.int .i64 (((0 : Nat) : Int))))]) := by
 have hgl : (gU (List.map gX xs) t).g.length = xs.length := by rw [hr.last.2.2, List.length_map]
 refine jM Tryz.func13 rfl cb13 rfl ?_
 show qJ _ _ _ _ ⟨[(0, (vl 83 7 qP t)), (1, (vl 45 4 jL (List.map jS xs)))], []⟩
 refine jB <| kx [] [] (zE (aK 45 4) <| zM <| zZ) ?_
 refine jB <| kx [(6, (.ref 0 0)), (7, (jN 0))] [(0, some (bx (jC (jP (gU (List.map gX xs) t)))))] (zM <| zM <| zE (kG (p_pts xs hx hxb)) <| zE (kG (j_jets t ht (List.map gX xs) (pts_gl hx) hr)) <| zM <| zE vX <| zE vX <| zN (qS 0 zG nI) <| zT (qF gA) <| zM <| zZ) ?_
 refine jB <| jB <| kx [(19, (vb false))] [] (zM <| zE (uX false oNe) <| zZ) ?_
 refine kO ?_
 refine jF <| jB <| kx [(8, (.own 1 45 4 0))] [(1, some (qD jL []))] (zO 1 45 4 <| zZ) ?_
 refine jB <| jB <| kx [(22, (vl 61 8 jG (List.map kF ((gU (List.map gX xs) t).g)))), (23, (jN (((gU (List.map gX xs) t).g).length))), (24, (jN 0))] [] (zE (qC xH) <| zR (oQr (.sl 61 8 (List.map jG (List.map kF ((gU (List.map gX xs) t).g)))) (.sl 61 8 (List.map jG (List.map kF ((gU (List.map gX xs) t).g)))) (uC mU) (by exact rfl)) <| zE (oLn yR (((gU (List.map gX xs) t).g).length)) <| zM <| zZ) ?_
 refine jI <| kU (α := Nat × List jJ) (fun (i, o) => ⟨[(8, (.own 1 45 4 o.length)), (22, (vl 61 8 jG (List.map kF ((gU (List.map gX xs) t).g)))), (23, (jN (((gU (List.map gX xs) t).g).length))), (24, (jN i))], [(1, some (qD jL o))]⟩) (fun (i, o) => i ≤ (gU (List.map gX xs) t).g.length ∧ o = ((gU (List.map gX xs) t).g.take i).map (fun y => jS y.1)) (fun (i, o) => (gU (List.map gX xs) t).g.length - i) (0, []) wk ⟨Nat.zero_le _, by simp⟩ ?_
 rintro ⟨i, o⟩ ⟨hi, ho⟩
 have hol : o.length = i := by rw [ho, List.length_map, List.length_take]; omega
 refine jB <| kx [(25, (vb (decide (((i : Nat) : Int) < ((((gU (List.map gX xs) t).g).length : Nat) : Int)))))] [] (zE vW <| zZ) ?_
 refine jB <| jK rfl (fun h1 => ?_) (fun h1 => ?_)
 ·replace h1 := of_decide_eq_true h1
  refine jF <| jB <| jI <| jB <| kx [(10, (.ref 2 0))] [(2, some (bx (jG (kF (((gU (List.map gX xs) t).g).getD i z2)))))] (zE (oXm yR kF i z2) <| zE (gH kS) <| zH (qS 2 uI uP) <| zT (qF kS) <| zZ) ?_
  refine kf [(8, (.own 1 45 4 ((o ++ [(jS ((((gU (List.map gX xs) t).g).getD i z2).1))]).length)))] [(1, some (qD jL (o ++ [(jS ((((gU (List.map gX xs) t).g).getD i z2).1))])))] (zM <| zE (qC xJ) <| zR (kK jO) <| zE (nU uL qO qR) <| zAS jL o [(jS ((((gU (List.map gX xs) t).g).getD i z2).1))] rfl uL qO by45 <| zM <| zF) ?_
  refine kx [(24, (jN (i + 1)))] [] (zE (vJ (i + 1)) <| zM <| zZ) ?_
  exact ⟨(i + 1, o ++ [jS ((gU (List.map gX xs) t).g.getD i z2).1]), wk, ⟨by omega, by rw [ho]; exact gr_step (by omega)⟩, (by first | omega | (dsimp only; omega))⟩
 ·replace h1 := of_decide_eq_false h1
  refine kP <| jB <| kx [(4, (.own 1 45 4 o.length)), (5, (jN 0))] [] (zM <| zM <| zM <| zZ) ?_
  refine kA (xF (t := 4) (k := 1) (es := List.map jL o) rfl rfl (xK _ _ (fun _ => rfl)) (qZ _ _ rfl) (yF jL o (fun _ => rfl) rfl)) ?_
  refine jH ⟨_, (.tmp (d := (.sl 45 4 (List.map jL o))) rfl (.tmp (d := (.val (.int .i64 (((0 : Nat) : Int))))) rfl .nil)), ?_⟩
  rw [ho, show i = (gU (List.map gX xs) t).g.length by omega, List.take_length]; rfl
end Go.Proofs.YtnajallgoaiahaaGreatDoor
namespace Go.Proofs.YtnajallgoaiahaaGreatDoor
open Go.Fid
set_option maxRecDepth 4000
set_option linter.unusedVariables false
set_option linter.unusedSimpArgs false
theorem by24 : yM Tryz.prog 24 = some 24 := by kernel_rfl
theorem cb18 : callB Tryz.prog 18 = true := by kernel_rfl
theorem cb22 : callB Tryz.prog 22 = true := by kernel_rfl
theorem el32 : vI Tryz.prog 32 = some (23, 1) := by kernel_rfl
theorem el33 : vI Tryz.prog 33 = some (24, 1) := by kernel_rfl
theorem sh23 : qU Tryz.prog 23 = some (false, 1) := by kernel_rfl
theorem ze23 : xW Tryz.prog 23 = some [.slice none 0 0] := by kernel_rfl
theorem ze24 : xW Tryz.prog 24 = some [.slice none 0 0] := by kernel_rfl
theorem zo23 : fH [.slice none 0 0] [.sl 83 7 []] := by simp [fH, Value.oneCell']
theorem zo24 : fH [.slice none 0 0] [.sl 45 4 []] := by simp [fH, Value.oneCell']
theorem p_tab (ts : List (List vB)) (hts : ∀ t ∈ ts, TnsOk 1048576 t) (xs : List Rat) (hx : ∀ q ∈ xs, QL q 1048576) (q : List (List jJ)) (hq : nD 1048576 q) (hjs : ∀ t ∈ ts, aS (List.map gX xs) t) (hr : dU q q.length xs.length) (hf : fitC q xs.length = 0) (hxq : xs.length = q.length) (h1 : 1 ≤ ts.length) (h64 : ts.length ≤ 64) : jW Tryz.prog 18 [(.sl 23 1 (List.map cM ts)), (.sl 45 4 (List.map jL (List.map jS xs))), (.sl 24 1 (List.map jY q))] (.tup [(.sl 24 1 (List.map jY (tabR q (List.map (gE xs) ts)))), (.val (.int .i64 (((0 : Nat) : Int))))]) := by
 have hx64 : xs.length ≤ 64 := hr.c64
 have hqm := hr.r64
 have hgo := grs_ok hjs h64
 have hgl : (List.map (gE xs) ts).length = ts.length := List.length_map _
 have hc0 := rect_chk hr
 have hr0 := rect_0 hr
 have hxn : ((List.map jS xs).length) = xs.length := List.length_map _
 have hgx : (List.map gX xs).length = xs.length := List.length_map _
 refine jM Tryz.func18 rfl cb18 rfl ?_
 show qJ _ _ _ _ ⟨[(0, (vl 23 1 cM ts)), (1, (vl 45 4 jL (List.map jS xs))), (2, (vl 24 1 jY q))], []⟩
 refine jB <| kx [] [] (zE (aK 24 1) <| zM <| zZ) ?_
 refine jB <| jB <| kx [(31, (vb false))] [] (zM <| zE (kG (p_pts xs hx (by omega))) <| zE (kG (p_val (List.map gX xs) (pts_gl hx) (by omega))) <| zE cE <| zM <| zM <| zE (kG (m_chk q hq)) <| zE (uX false oNe (by exact bne_eq_false_iff_eq.2 (by rw [show (mchk q) = 0 from hc0]; rfl))) <| zE nA <| zZ) ?_
 refine kO ?_
 refine jF <| jB <| jB <| kx [(34, (vb (((ts.length : Nat) : Int) == ((0 : Nat) : Int))))] [] (zM <| zE (zB el32) <| zE gJ <| zZ) ?_
 refine jK rfl (fun h1 => ?_) (fun h1 => ?_)
 ·replace h1 := eq_of_beq h1
  exfalso; omega
 ·replace h1 := ne_of_beq_false h1
  refine jF <| jB <| jB <| kx [(37, (vb (decide (((64 : Nat) : Int) < ((ts.length : Nat) : Int)))))] [] (zM <| zE (zB el32) <| zE yN <| zZ) ?_
  refine jK rfl (fun h2 => ?_) (fun h2 => ?_)
  ·replace h2 := of_decide_eq_true h2
   exfalso; omega
  ·replace h2 := of_decide_eq_false h2
   refine jF <| jB <| jB <| kx [(38, (vl 23 1 cM ts)), (39, (jN ts.length)), (40, (jN 0))] [] (zM <| zE (zB el32) <| zM <| zZ) ?_
   refine jI <| kU (α := Nat) (fun i => ⟨[(0, (vl 23 1 cM ts)), (1, (vl 45 4 jL (List.map jS xs))), (2, (vl 24 1 jY q)), (38, (vl 23 1 cM ts)), (39, (jN ts.length)), (40, (jN i))], []⟩) (fun i => i ≤ ts.length) (fun i => ts.length - i) 0 wk (Nat.zero_le _) ?_
   rintro i hi
   refine jB <| kx [(41, (vb (decide (((i : Nat) : Int) < ((ts.length : Nat) : Int)))))] [] (zE vW <| zZ) ?_
   refine jB <| jK rfl (fun h3 => ?_) (fun h3 => ?_)
   ·replace h3 := of_decide_eq_true h3
    refine jF <| jB <| jI <| jB <| kx [(9, (vl 83 7 qP (ts.getD i [])))] [] (zE (hZ el32 i ([] : List (vB))) <| zE (gK sh23) <| zM <| zZ) ?_
    refine jB <| kx [(10, (jN (tmC ((xs.length : Nat) : Int) (ts.getD i []))))] [] (zM <| zM <| zE (oLn uL xs.length) <| zE (kG (j_chk (ts.getD i []) (tms_at hts i) ((xs.length : Nat) : Int))) <| zM <| zZ) ?_
    refine jB <| kx [(49, (vb false))] [] (zM <| zE (uX false oNe (by exact bne_eq_false_iff_eq.2 (by rw [show (tmC ((xs.length : Nat) : Int) (ts.getD i [])) = 0 from (tms_c0 hjs (show i < ts.length by omega))]; rfl))) <| zZ) ?_
    refine kO ?_
    refine jF <| kx [(40, (jN (i + 1)))] [] (zE (vJ (i + 1)) <| zM <| zZ) ?_
    exact ⟨i + 1, wk, (by omega), (by first | omega | (dsimp only; omega))⟩
   ·replace h3 := of_decide_eq_false h3
    refine kP <| jB <| jB <| kx [(11, (jN (fitC q xs.length)))] [] (zM <| zM <| zE (oLn uL xs.length) <| zE (kG (p_fit q hq xs.length hr0)) <| zM <| zZ) ?_
    refine jB <| kx [(57, (vb false))] [] (zM <| zE (uX false oNe (by exact bne_eq_false_iff_eq.2 (by rw [show (fitC q xs.length) = 0 from hf]; rfl))) <| zZ) ?_
    refine kO ?_
    refine jF <| jB <| kx [(12, (.own 0 24 1 0))] [(0, some (bm jY []))] (zO 0 24 1 <| zZ) ?_
    refine jB <| jB <| kx [(59, (vl 23 1 cM ts)), (60, (jN ts.length)), (61, (jN 0))] [] (zM <| zE (zB el32) <| zM <| zZ) ?_
    refine jI <| kU (α := Nat × List (List jJ)) (fun (i, o) => ⟨[(1, (vl 45 4 jL (List.map jS xs))), (2, (vl 24 1 jY q)), (12, (.own 0 24 1 o.length)), (59, (vl 23 1 cM ts)), (60, (jN ts.length)), (61, (jN i))], [(0, some (bm jY o))]⟩) (fun (i, o) => i ≤ ts.length ∧ o = (ts.take i).map (gE xs)) (fun (i, o) => ts.length - i) (0, []) wk ⟨Nat.zero_le _, by simp⟩ ?_
    rintro ⟨i, o⟩ ⟨hi, ho⟩
    have hol : o.length = i := by rw [ho, List.length_map, List.length_take]; omega
    refine jB <| kx [(62, (vb (decide (((i : Nat) : Int) < ((ts.length : Nat) : Int)))))] [] (zE vW <| zZ) ?_
    refine jB <| jK rfl (fun h4 => ?_) (fun h4 => ?_)
    ·replace h4 := of_decide_eq_true h4
     refine jF <| jB <| jI <| jB <| kx [(14, (vl 83 7 qP (ts.getD i [])))] [] (zE (hZ el32 i ([] : List (vB))) <| zE (gK sh23) <| zM <| zZ) ?_
     refine jB <| kx [(15, (vl 45 4 jL (gE xs (ts.getD i [])))), (16, (jN 0))] [] (zM <| zM <| zE (kG (p_grd (ts.getD i []) (tms_at hts i) xs hx (tms_jr hjs (show i < ts.length by omega)) (by omega))) <| zM <| zE vX <| zE vX <| zM <| zM <| zZ) ?_
     refine jB <| jB <| kx [(72, (vb false))] [] (zM <| zE (uX false oNe) <| zZ) ?_
     refine kO ?_
     refine jF <| kf [(12, (.own 0 24 1 ((o ++ [(gE xs (ts.getD i []))]).length)))] [(0, some (bm jY (o ++ [(gE xs (ts.getD i []))])))] (zM <| zM <| zE (nU el33 ze24 zo24) <| zA jY o [(gE xs (ts.getD i []))] rfl el33 ze24 by24 <| zM <| zF) ?_
     refine kx [(61, (jN (i + 1)))] [] (zE (vJ (i + 1)) <| zM <| zZ) ?_
     exact ⟨(i + 1, o ++ [gE xs (ts.getD i [])]), wk, ⟨by omega, by rw [ho]; exact fX (by omega)⟩, (by first | omega | (dsimp only; omega))⟩
    ·replace h4 := of_decide_eq_false h4
     have hgs : o = (List.map (gE xs) ts) := by rw [ho, show i = ts.length by omega, List.take_length]
     refine kP <| jB <| kx [(17, (.own 1 24 1 0))] [(1, some (bm jY []))] (zOh 1 24 1 <| zZ) ?_
     refine jB <| jB <| kA (xF (t := 12) (k := 0) (es := List.map jY o) rfl rfl (uG _ _ (fun _ => rfl)) (qZ _ _ rfl) (uU _ _ (fun _ => rfl) rfl)) ?_
     refine kx [(79, (vl 24 1 jY (List.map (gE xs) ts))), (80, (jN ((List.map (gE xs) ts).length))), (81, (jN 0))] [] (zE (oQd (.sl 24 1 (List.map jY o)) (.sl 24 1 (List.map jY (List.map (gE xs) ts))) (oV (vl 24 1 jY o) (uA (by kernel_rfl))) (by exact (by rw [hgs]))) <| zE (zB el33 (L := (List.map (gE xs) ts))) <| zM <| zZ) ?_
     refine jI <| kU (α := Nat × List (List jJ)) (fun (i, u) => ⟨[(2, (vl 24 1 jY q)), (12, (vl 24 1 jY o)), (17, (.own 1 24 1 u.length)), (79, (vl 24 1 jY (List.map (gE xs) ts))), (80, (jN ((List.map (gE xs) ts).length))), (81, (jN i))], [(1, some (bm jY u))]⟩) (fun (i, u) => i ≤ (List.map (gE xs) ts).length ∧ u = ((List.map (gE xs) ts).take i).map (fun a => (List.map (gE xs) ts).map fun b => jS (covR q a b))) (fun (i, u) => (List.map (gE xs) ts).length - i) (0, []) wk ⟨Nat.zero_le _, by simp⟩ ?_
     rintro ⟨i, u⟩ ⟨hi2, hu⟩
     have hul : u.length = i := by rw [hu, List.length_map, List.length_take]; omega
     refine jB <| kx [(82, (vb (decide (((i : Nat) : Int) < (((List.map (gE xs) ts).length : Nat) : Int)))))] [] (zE vW <| zZ) ?_
     refine jB <| jK rfl (fun h5 => ?_) (fun h5 => ?_)
     ·replace h5 := of_decide_eq_true h5
      obtain ⟨hli0, hvi⟩ := grs_at hjs (show i < (List.map (gE xs) ts).length by omega)
      have hli := hli0.trans hxq
      refine jF <| jB <| jI <| jB <| kx [(19, (vl 45 4 jL ((List.map (gE xs) ts).getD i [])))] [] (zE (hZ el33 i ([] : List (jJ)) (L := (List.map (gE xs) ts))) <| zE (gK sh24) <| zM <| zZ) ?_
      refine jB <| kx [(20, (.own 2 45 4 0))] [(2, some (qD jL []))] (zOh 2 45 4 <| zZ) ?_
      refine jB <| jB <| kx [(85, (vl 24 1 jY (List.map (gE xs) ts))), (86, (jN ((List.map (gE xs) ts).length))), (87, (jN 0))] [] (zE (oQd (.sl 24 1 (List.map jY o)) (.sl 24 1 (List.map jY (List.map (gE xs) ts))) (oV (vl 24 1 jY o) (uA (by kernel_rfl))) (by exact (by rw [hgs]))) <| zE (zB el33 (L := (List.map (gE xs) ts))) <| zM <| zZ) ?_
      refine jI <| kU (α := Nat × List jJ) (fun (j, v) => ⟨[(2, (vl 24 1 jY q)), (12, (vl 24 1 jY o)), (17, (.own 1 24 1 u.length)), (19, (vl 45 4 jL ((List.map (gE xs) ts).getD i []))), (20, (.own 2 45 4 v.length)), (79, (vl 24 1 jY (List.map (gE xs) ts))), (80, (jN ((List.map (gE xs) ts).length))), (81, (jN i)), (85, (vl 24 1 jY (List.map (gE xs) ts))), (86, (jN ((List.map (gE xs) ts).length))), (87, (jN j))], [(1, some (bm jY u)), (2, some (qD jL v))]⟩) (fun (j, v) => j ≤ (List.map (gE xs) ts).length ∧ v = ((List.map (gE xs) ts).take j).map (fun b => jS (covR q ((List.map (gE xs) ts).getD i []) b))) (fun (j, v) => (List.map (gE xs) ts).length - j) (0, []) wk ⟨Nat.zero_le _, by simp⟩ ?_
      rintro ⟨j, v⟩ ⟨hj2, hv⟩
      have hvl : v.length = j := by rw [hv, List.length_map, List.length_take]; omega
      refine jB <| kx [(88, (vb (decide (((j : Nat) : Int) < (((List.map (gE xs) ts).length : Nat) : Int)))))] [] (zE vW <| zZ) ?_
      refine jB <| jK rfl (fun h6 => ?_) (fun h6 => ?_)
      ·replace h6 := of_decide_eq_true h6
       obtain ⟨hlj0, hvj⟩ := grs_at hjs (show j < (List.map (gE xs) ts).length by omega)
       have hlj := hlj0.trans hxq
       have hrj : dU q q.length ((List.map (gE xs) ts).getD j []).length := by rw [hlj0]; exact hr
       refine jF <| jB <| jI <| jB <| kx [(22, (vl 45 4 jL ((List.map (gE xs) ts).getD j [])))] [] (zE (hZ el33 j ([] : List (jJ)) (L := (List.map (gE xs) ts))) <| zE (gK sh24) <| zM <| zZ) ?_
       refine kf [(20, (.own 2 45 4 ((v ++ [(jS (covR q ((List.map (gE xs) ts).getD i []) ((List.map (gE xs) ts).getD j [])))]).length)))] [(2, some (qD jL (v ++ [(jS (covR q ((List.map (gE xs) ts).getD i []) ((List.map (gE xs) ts).getD j [])))])))] (zM <| zM <| zM <| zM <| zE (kG (m_cov q hq ((List.map (gE xs) ts).getD i []) (xM (d := []) hgo (show i < (List.map (gE xs) ts).length by omega)) ((List.map (gE xs) ts).getD j []) (xM (d := []) hgo (show j < (List.map (gE xs) ts).length by omega)) hrj hvj hli hlj)) <| zE (nU uL qO qR) <| zAS jL v [(jS (covR q ((List.map (gE xs) ts).getD i []) ((List.map (gE xs) ts).getD j [])))] rfl uL qO by45 <| zM <| zF) ?_
       refine kx [(87, (jN (j + 1)))] [] (zE (vJ (j + 1)) <| zM <| zZ) ?_
       exact ⟨(j + 1, v ++ [jS (covR q ((List.map (gE xs) ts).getD i []) ((List.map (gE xs) ts).getD j []))]), wk, ⟨by omega, by rw [hv]; exact fX (f := fun b => jS (covR q ((List.map (gE xs) ts).getD i []) b)) (by omega)⟩, (by first | omega | (dsimp only; omega))⟩
      ·replace h6 := of_decide_eq_false h6
       refine kP <| kA (xF (t := 20) (k := 2) (es := List.map jL v) rfl rfl (xK _ _ (fun _ => rfl)) (qZ _ _ rfl) (yF jL v (fun _ => rfl) rfl)) ?_
       refine kf [(17, (.own 1 24 1 ((u ++ [v]).length)))] [(1, some (bm jY (u ++ [v])))] (zM <| zM <| zE (nU dR ze24 zo24) <| zA jY u [v] rfl dR ze24 by24 <| zM <| zF) ?_
       refine kx [(81, (jN (i + 1)))] [] (zE (vJ (i + 1)) <| zM <| zZ) ?_
       exact ⟨(i + 1, u ++ [v]), wk, ⟨by omega, by rw [hu, hv, show j = (List.map (gE xs) ts).length by omega, List.take_length]; exact fX (f := fun a => (List.map (gE xs) ts).map fun b => jS (covR q a b)) (by omega)⟩, (by first | omega | (dsimp only; omega))⟩
     ·replace h5 := of_decide_eq_false h5
      refine kP <| jB <| kx [(6, (.own 1 24 1 u.length)), (7, (jN 0))] [] (zM <| zM <| zM <| zZ) ?_
      refine kA (xF (t := 6) (k := 1) (es := List.map jY u) rfl rfl (uG _ _ (fun _ => rfl)) (qZ _ _ rfl) (uU _ _ (fun _ => rfl) rfl)) ?_
      refine jH ⟨_, (.tmp (d := (.sl 24 1 (List.map jY u))) rfl (.tmp (d := (.val (.int .i64 (((0 : Nat) : Int))))) rfl .nil)), ?_⟩
      rw [hu, show i = (List.map (gE xs) ts).length by omega, List.take_length]; rfl
theorem p_var (t : List vB) (ht : TnsOk 1048576 t) (xs : List Rat) (hx : ∀ q ∈ xs, QL q 1048576) (q : List (List jJ)) (hq : nD 1048576 q) (hj : aS (List.map gX xs) t) (hr : dU q q.length xs.length) (hf : fitC q xs.length = 0) (hxq : xs.length = q.length) : jW Tryz.prog 22 [(.sl 83 7 (List.map qP t)), (.sl 45 4 (List.map jL (List.map jS xs))), (.sl 24 1 (List.map jY q))] (.tup [(jL (jS (covR q (gE xs t) (gE xs t)))), (.val (.int .i64 (((0 : Nat) : Int))))]) := by
 have hx64 : xs.length ≤ 64 := hr.c64
 have hjs : ∀ u ∈ [t], aS (List.map gX xs) u := one_of hj
 have ht1 : (tabR q (List.map (gE xs) [t])).length = 1 := rfl
 have ht2 : ((tabR q (List.map (gE xs) [t])).getD 0 []).length = 1 := rfl
 refine jM Tryz.func22 rfl cb22 rfl ?_
 show qJ _ _ _ _ ⟨[(0, (vl 83 7 qP t)), (1, (vl 45 4 jL (List.map jS xs))), (2, (vl 24 1 jY q))], []⟩
 refine jB <| kx [(6, (.ref 0 0))] [(0, some (bx (jL (jJ.mk (jE.mk false []) (jE.mk false [])))))] (zN (qS 0 qO qR) <| zM <| zZ) ?_
 refine jB <| kx [(8, (vl 24 1 jY (tabR q (List.map (gE xs) [t])))), (9, (jN 0))] [] (zM <| zE (nU el32 ze23 zo23) <| zM <| zM <| zE (kG (p_tab [t] (tms_one ht) xs hx q hq hjs hr hf hxq (Nat.le_refl 1) (Nat.le_of_ble_eq_true rfl))) <| zM <| zE vX <| zE vX <| zM <| zM <| zZ) ?_
 refine jB <| jB <| kx [(19, (vb false))] [] (zM <| zE (uX false oNe) <| zZ) ?_
 refine kO ?_
 refine jF <| jB <| kx [(7, (jN 0))] [(0, some (bx (jL (((tabR q (List.map (gE xs) [t])).getD 0 []).getD 0 (jJ.mk (jE.mk false []) (jE.mk false []))))))] (zM <| zE (hZ dR 0 ([] : List (jJ)) (L := (tabR q (List.map (gE xs) [t])))) <| zE (gK sh24) <| zE (hZ uL 0 (jJ.mk (jE.mk false []) (jE.mk false [])) (L := ((tabR q (List.map (gE xs) [t])).getD 0 []))) <| zE (gH jO) <| zT (qF jO) <| zM <| zZ) ?_
 refine jH ⟨_, (qA (cs := (bx (jL (((tabR q (List.map (gE xs) [t])).getD 0 []).getD 0 (jJ.mk (jE.mk false []) (jE.mk false [])))))) (d := (jL (((tabR q (List.map (gE xs) [t])).getD 0 []).getD 0 (jJ.mk (jE.mk false []) (jE.mk false []))))) rfl rfl jO rfl rfl (.tmp (d := (.val (.int .i64 (((0 : Nat) : Int))))) rfl .nil)), ?_⟩
 rfl
end Go.Proofs.YtnajallgoaiahaaGreatDoor
namespace Go.Proofs.YtnajallgoaiahaaGreatDoor
open Go.Fid
set_option maxRecDepth 4000
set_option linter.unusedVariables false
set_option linter.unusedSimpArgs false
theorem cb89 : callB Tryz.prog 89 = true := by kernel_rfl
theorem cb149 : callB Tryz.prog 149 = true := by kernel_rfl
theorem i_makeO (x : jJ) (p : Rat) (hx : yT x p 17179869184) (y : jJ) (q : Rat) (hy : yT y q 17179869184) (hv : (jX x && jX y) = true) (hc : p ≤ q) : jW Tryz.prog 149 [(jL x), (jL y)] (.tup [(jG (kD.mk x y)), (.val (.int .i64 (0)))]) := by
 refine jM Tryz.func149 rfl cb149 rfl ?_
 show qJ _ _ _ _ ⟨[(0, (.d (jL x))), (1, (.d (jL y)))], []⟩
 refine jB <| kx [(2, (.ref 0 0)), (3, (.ref 1 0)), (4, (.ref 2 0))] [(0, some (bx (jL x))), (1, some (bx (jL y))), (2, some (bx (jG (kD.mk (jJ.mk (jE.mk false []) (jE.mk false [])) (jJ.mk (jE.mk false []) (jE.mk false []))))))] (zN (uZ 0) <| zN (uZ 1) <| zN (qS 2 uI uP) <| zM <| zZ) ?_
 refine jB <| jB <| kx [(13, (vb (!(jX x) || !(jX y))))] [] ?_ ?_
 ·refine zR (kK jO) <| zE (kG (xU x p hx)) <| zE cE <| zE (oV (vb (!(jX x))) (uA (by kernel_rfl))) <| ?_
  rcases hb1 : (!(jX x)) with _ | _
  ·exact zR (kK jO) <| zE (kG (xU y q hy)) <| zE cE <| zE oPo <| zZ
  ·exact zK <| zK <| zK <| zE cR <| zZ
 refine jK (b := (!(jX x) || !(jX y))) rfl (fun h2 => ?_) (fun h2 => ?_)
 ·exfalso; revert h2 hv; cases jX x <;> cases jX y <;> simp
 ·refine jF <| jB <| jB <| kx [(18, (vb (decide (0 < (yE p q)))))] [] (zR (kK jO) <| zR (kK jO) <| zE (kG (mI x y p q hx hy)) <| zE yN <| zZ) ?_
  refine jK (b := decide (0 < (yE p q))) rfl (fun h3 => ?_) (fun h3 => ?_)
  ·replace h3 := of_decide_eq_true h3
   exact absurd (cmpQ_gt.1 h3) (Rat.not_lt.2 hc)
  ·replace h3 := of_decide_eq_false h3
   refine jF <| jB <| kx [(5, (jN 0))] [(2, some (bx (jG (kD.mk x y))))] (zR (kK jO) <| zR (kK jO) <| zE (fM pl61 uI uP) <| zT (qF kS) <| zM <| zZ) ?_
   refine jH ⟨_, (qA (cs := (bx (jG (kD.mk x y)))) (d := (jG (kD.mk x y))) rfl rfl kS rfl rfl (.tmp (d := (.val (.int .i64 (0)))) rfl .nil)), ?_⟩
   rfl
end Go.Proofs.YtnajallgoaiahaaGreatDoor
set_option linter.unusedVariables false
set_option linter.unusedSimpArgs false
namespace Go.Fid
def rootN (x : Nat) : Nat := Nat.rec (motive := fun _ => Nat) 0 (fun _ r => if (r + 1) * (r + 1) ≤ x then r + 1 else r) x
theorem rootN_go (x : Nat) : ∀ k, let r : Nat := Nat.rec (motive := fun _ => Nat) 0 (fun _ r => if (r + 1) * (r + 1) ≤ x then r + 1 else r) k; r * r ≤ x ∧ (x < (r + 1) * (r + 1) ∨ r = k)
  | 0 => ⟨Nat.zero_le _, .inr rfl⟩
  | k + 1 => by
    obtain ⟨h1, h2⟩ := rootN_go x k
    dsimp only at h1 h2 ⊢
    generalize hr : (Nat.rec (motive := fun _ => Nat) 0 (fun _ r => if (r + 1) * (r + 1) ≤ x then r + 1 else r) k : Nat) = r at h1 h2
    split
    · rename_i h
      refine ⟨h, ?_⟩
      rcases h2 with h2 | h2
      · omega
      · right; omega
    · rename_i h; exact ⟨h1, .inl (by omega)⟩
theorem rootN_le (x : Nat) : rootN x * rootN x ≤ x := (rootN_go x x).1
theorem lt_rootN (x : Nat) : x < (rootN x + 1) * (rootN x + 1) := by
  rcases (rootN_go x x).2 with h | h
  · exact h
  · have h : rootN x = x := h
    rw [h]
    have : (x + 1) * (x + 1) = x * x + 2 * x + 1 := by rw [Nat.add_mul, Nat.mul_add]; omega
    omega
theorem sq_lt {a b : Nat} (h : a * a < b * b) : a < b := by
  rcases Nat.lt_or_ge a b with h1 | h1
  · exact h1
  · have := Nat.mul_le_mul h1 h1; omega
theorem root_uniq {x r : Nat} (h1 : r * r ≤ x) (h2 : x < (r + 1) * (r + 1)) : r = rootN x := by
  have a1 := sq_lt (Nat.lt_of_le_of_lt h1 (lt_rootN x))
  have a2 := sq_lt (Nat.lt_of_le_of_lt (rootN_le x) h2)
  omega
theorem newton_up {x r : Nat} (hr : 0 < r) : x < ((r + x / r) / 2 + 1) * ((r + x / r) / 2 + 1) := by
  have h1 : x < r * (x / r + 1) := by
    have := Nat.div_add_mod x r
    have := Nat.mod_lt x hr
    rw [Nat.mul_add, Nat.mul_one]; omega
  generalize x / r = q at *
  generalize hn : (r + q) / 2 = n at *
  have h2 : r + (q + 1) ≤ 2 * (n + 1) := by omega
  have h3 : 4 * (r * (q + 1)) ≤ (r + (q + 1)) * (r + (q + 1)) := by
    generalize q + 1 = b
    rcases Nat.le_total r b with h | h
    · obtain ⟨d, rfl⟩ := Nat.exists_eq_add_of_le h
      have : (r + (r + d)) * (r + (r + d)) = 4 * (r * (r + d)) + d * d := by grind
      omega
    · obtain ⟨d, rfl⟩ := Nat.exists_eq_add_of_le h
      have : (b + d + b) * (b + d + b) = 4 * ((b + d) * b) + d * d := by grind
      omega
  have h4 := Nat.mul_le_mul h2 h2
  have h5 : 2 * (n + 1) * (2 * (n + 1)) = 4 * ((n + 1) * (n + 1)) := by grind
  omega
theorem newton_end {x r : Nat} (hr : 0 < r) (h : r ≤ (r + x / r) / 2) : r * r ≤ x := by
  have h1 : r ≤ x / r := by omega
  exact Nat.le_trans (Nat.mul_le_mul_left r h1) (Nat.mul_div_le x r)
theorem newton_pos {x r : Nat} (hx : 0 < x) (hr : 0 < r) : 0 < (r + x / r) / 2 := by
  have := newton_up (x := x) hr
  rcases Nat.eq_zero_or_pos ((r + x / r) / 2) with h | h
  · rw [h] at this; omega
  · exact h
theorem newton_root {x r : Nat} (hr : 0 < r) (hu : x < (r + 1) * (r + 1)) (h : r ≤ (r + x / r) / 2) : r = rootN x := root_uniq (newton_end hr h) hu
theorem bit_and (n b : Nat) : (n &&& 2 ^ b = 0) ↔ n / 2 ^ b % 2 = 0 := by
  have hb : n.testBit b = decide (n / 2 ^ b % 2 = 1) := Nat.testBit_eq_decide_div_mod_eq
  have key : (n &&& 2 ^ b = 0) ↔ n.testBit b = false := by
    constructor
    · intro h
      have := congrArg (fun m : Nat => m.testBit b) h
      simpa [Nat.testBit_and, Nat.testBit_two_pow] using this
    · intro h
      apply Nat.eq_of_testBit_eq
      intro i
      rw [Nat.testBit_and, Nat.testBit_two_pow, Nat.zero_testBit]
      by_cases e : b = i
      · subst e; rw [h]; rfl
      · simp [e]
  rw [key, hb, decide_eq_false_iff_not]
  omega
end Go.Fid
