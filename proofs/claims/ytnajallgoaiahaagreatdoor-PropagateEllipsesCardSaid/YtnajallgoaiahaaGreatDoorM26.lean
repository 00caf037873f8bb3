/- Part 26 of a proof: rules, plain facts, and functions walked. -/
import Derived.Test.YtnajallgoaiahaaGreatDoorM21
import Derived.Test.YtnajallgoaiahaaGreatDoorM25
namespace Go.Proofs.YtnajallgoaiahaaGreatDoor
open Go.Fid
set_option maxRecDepth 4000
set_option linter.unusedVariables false
set_option linter.unusedSimpArgs false
theorem cb72 : callB Tryz.prog 72 = true := by kernel_rfl
theorem cb127 : callB Tryz.prog 127 = true := by kernel_rfl
theorem cb128 : callB Tryz.prog 128 = true := by kernel_rfl
theorem cb129 : callB Tryz.prog 129 = true := by kernel_rfl
theorem cb207 : callB Tryz.prog 207 = true := by kernel_rfl
theorem cb208 : callB Tryz.prog 208 = true := by kernel_rfl
theorem cb209 : callB Tryz.prog 209 = true := by kernel_rfl
theorem cb245 : callB Tryz.prog 245 = true := by kernel_rfl
theorem vJ : uV Tryz.prog 34 = some (24, 1) := by kernel_rfl
theorem gP : qO Tryz.prog 24 = some (false, 1) := by kernel_rfl
theorem yV : qO Tryz.prog 34 = some (false, 1) := by kernel_rfl
theorem m_can1 (x : jE) (p : Rat) (hx : hH x p 1048576) : jV Tryz.prog 209 [(jK x)] (.val (.bool ((!(kP x))))) := by
 refine jJ Tryz.func209 rfl cb209 rfl ?_
 show qI _ _ _ _ ⟨[(0, (.d (jK x)))], []⟩
 refine jB <| kx [(1, (.ref 0 0))] [(0, some (bx (jK x)))] (zN (vL 0) <| zM <| zZ) ?_
 refine jB <| kx [(2, (vb (!(kP x))))] [] (zR (kR jR) <| zE (jX (nR x p (jP hx (by decide)))) <| zE mM <| zM <| zZ) ?_
 refine jG ⟨_, (.tmp (d := (.val (.bool (!(kP x))))) rfl .nil), ?_⟩
 rfl
theorem m_canAI (l : List jE) (hl : zG 1048576 l) (hb : l.length ≤ 140737488355328) : jV Tryz.prog 245 [(.sl 45 4 (List.map jK l)), (.val (.func (.func 209) #[] #[]))] (.val (.int .i64 ((fL (fun x => !(kP x)) l 0)))) := by
 refine jJ Tryz.func245 rfl cb245 rfl ?_
 show qI _ _ _ _ ⟨[(0, (vl 45 4 jK l)), (1, (.d (.val (.func (.func 209) #[] #[]))))], []⟩
 refine jB <| kx [] [] (zM <| zZ) ?_
 refine jB <| jB <| kx [(7, (jW l.length)), (8, (jW 0))] [] (zM <| zE (vG uN) <| zM <| zZ) ?_
 refine jI <| kN (α := Nat) (fun k => ⟨[(0, (vl 45 4 jK l)), (1, (.d (.val (.func (.func 209) #[] #[])))), (7, (jW l.length)), (8, (jW k))], []⟩) (fun k => k ≤ l.length ∧ fL (fun x => !(kP x)) l 0 = fL (fun x => !(kP x)) (l.drop k) k) (fun k => l.length - k) 0 wk ⟨Nat.zero_le _, by rw [List.drop_zero]⟩ ?_
 rintro k ⟨hk, hv⟩
 refine jB <| kx [(9, (vb (decide (((k : Nat) : Int) < ((l.length : Nat) : Int)))))] [] (zE xK <| zZ) ?_
 refine jB <| jH rfl (fun h1 => ?_) (fun h1 => ?_)
 ·replace h1 := of_decide_eq_true h1
  refine jF <| jB <| jI <| jB <| kx [(5, (jW k))] [] (zM <| zM <| zZ) ?_
  refine jB <| kx [(16, (vb (!(kP (l.getD k (jE.mk (jD.mk false []) (jD.mk false [])))))))] [] (zM <| zM <| zM <| zE (xM uN k (jE.mk (jD.mk false []) (jD.mk false []))) <| zE (dK jR) <| zE (jX (m_can1 (l.getD k (jE.mk (jD.mk false []) (jD.mk false []))) (jN (l.getD k (jE.mk (jD.mk false []) (jD.mk false [])))) (qN hl.1 (show k < l.length by omega)))) <| zZ) ?_
  refine jH rfl (fun h2 => ?_) (fun h2 => ?_)
  ·have hix := fst0_at (fun x => !(kP x)) (jE.mk (jD.mk false []) (jD.mk false [])) l k (by omega) h2
   refine jB <| kx [(4, (jW k))] [] (zM <| zM <| zZ) ?_
   refine jG ⟨_, (.tmp (d := (.val (.int .i64 (((k : Nat) : Int))))) rfl .nil), ?_⟩
   rw [hv, hix]; rfl
  ·have hix := fst0_step (fun x => !(kP x)) (jE.mk (jD.mk false []) (jD.mk false [])) l k (by omega) h2
   refine jF <| kx [(8, (jW (k + 1)))] [] (zE (vU (k + 1)) <| zM <| zZ) ?_
   exact ⟨(k + 1), wk, ⟨by omega, hv.trans hix⟩, (by omega)⟩
 ·replace h1 := of_decide_eq_false h1
  have hix := fst0_end (fun x => !(kP x)) l k (by omega)
  refine kL <| jB <| kx [(4, (vi (-1)))] [] (zM <| zZ) ?_
  refine jG ⟨_, (.tmp (d := (.val (.int .i64 (-1)))) rfl .nil), ?_⟩
  rw [hv, hix]; rfl
theorem m_canA (l : List jE) (hl : zG 1048576 l) (hb : l.length ≤ 140737488355328) : jV Tryz.prog 208 [(.sl 45 4 (List.map jK l)), (.val (.func (.func 209) #[] #[]))] (.val (.bool ((l.any (fun x => !(kP x)))))) := by
 refine jJ Tryz.func208 rfl cb208 rfl ?_
 show qI _ _ _ _ ⟨[(0, (vl 45 4 jK l)), (1, (.d (.val (.func (.func 209) #[] #[]))))], []⟩
 refine jB <| kx [] [] (zM <| zZ) ?_
 refine jB <| kx [(4, (vb (decide (0 ≤ (fL (fun x => !(kP x)) l 0)))))] [] (zM <| zM <| zE (jX (m_canAI l hl hb)) <| zE oGe <| zM <| zZ) ?_
 refine jG ⟨_, (.tmp (d := (.val (.bool (decide (0 ≤ (fL (fun x => !(kP x)) l 0)))))) rfl .nil), ?_⟩
 rw [fst0_any]; rfl
theorem m_can (l : List jE) (hl : zG 1048576 l) (hb : l.length ≤ 140737488355328) : jV Tryz.prog 129 [(.sl 45 4 (List.map jK l))] (.val (.bool ((eT l)))) := by
 refine jJ Tryz.func129 rfl cb129 rfl ?_
 show qI _ _ _ _ ⟨[(0, (vl 45 4 jK l))], []⟩
 refine jB <| kx [] [] (zM <| zZ) ?_
 refine jB <| kx [(2, (vb (!(l.any (fun x => !(kP x))))))] [] (zM <| zE (jX (m_canA l hl hb)) <| zE mM <| zM <| zZ) ?_
 refine jG ⟨_, (.tmp (d := (.val (.bool (!(l.any (fun x => !(kP x))))))) rfl .nil), ?_⟩
 rw [vRow_any]; rfl
theorem m_chk1 (l : List jE) (hl : zG 1048576 l) (m : List (List jE)) (hm : vR 1048576 m) (h0 : 0 < m.length) (hlb : l.length ≤ 140737488355328) : jV Tryz.prog 128 [(.sl 45 4 (List.map jK l)), (.cptr 1000000 (kD.cells (.sl 24 1 (List.map jL m))) 0)] (.val (.bool ((xS m l)))) := by
 have hmb := hm.2
 have hrb := (kO (d := []) hm h0).2
 refine jJ Tryz.func128 rfl cb128 rfl ?_
 show qI _ _ _ _ ⟨[(0, (vl 45 4 jK l)), (1, (.d (.cptr 1000000 (kD.cells (.sl 24 1 (List.map jL m))) 0)))], []⟩
 refine jB <| kx [] [] (zM <| zZ) ?_
 refine jB <| kx [(3, (vb ((((l.length : Nat) : Int) != (((m.getD 0 []).length : Nat) : Int)) || !(eT l))))] [] ?_ ?_
 ·refine zM <| zE (vG uN) <| zE (xZ yV) <| zE (xM vJ 0 ([] : List (jE))) <| zE (xZ gP) <| zE (vG uN (L := (m.getD 0 []))) <| zE cS <| zE (oV (vb (((l.length : Nat) : Int) != (((m.getD 0 []).length : Nat) : Int))) (kY (by kernel_rfl))) <| ?_
  rcases hb1 : (((l.length : Nat) : Int) != (((m.getD 0 []).length : Nat) : Int)) with _ | _
  ·replace hb1 := bne_eq_false_iff_eq.1 hb1
   exact zM <| zE (jX (m_can l hl hlb)) <| zE mM <| zE cU <| zM <| zZ
  ·replace hb1 := bne_iff_ne.1 hb1
   exact zK <| zK <| zK <| zE vY <| zM <| zZ
 refine jG ⟨_, (.tmp (d := (.val (.bool (((((l.length : Nat) : Int) != (((m.getD 0 []).length : Nat) : Int)) || !(eT l)))))) rfl .nil), ?_⟩
 rfl
theorem m_chkAI (l : List (List jE)) (hl : vR 1048576 l) (m : List (List jE)) (hm : vR 1048576 m) (hb : l.length ≤ 140737488355328) (h0 : 0 < m.length) : jV Tryz.prog 207 [(.sl 24 1 (List.map jL l)), (.clo 128 [(.cptr 1000000 (kD.cells (.sl 24 1 (List.map jL m))) 0)])] (.val (.int .i64 ((fL (xS m) l 0)))) := by
 refine jJ Tryz.func207 rfl cb207 rfl ?_
 show qI _ _ _ _ ⟨[(0, (vl 24 1 jL l)), (1, (.d (.clo 128 [(.cptr 1000000 (kD.cells (.sl 24 1 (List.map jL m))) 0)])))], []⟩
 refine jB <| kx [] [] (zM <| zZ) ?_
 refine jB <| jB <| kx [(7, (jW l.length)), (8, (jW 0))] [] (zM <| zE (vG vJ) <| zM <| zZ) ?_
 refine jI <| kN (α := Nat) (fun k => ⟨[(0, (vl 24 1 jL l)), (1, (.d (.clo 128 [(.cptr 1000000 (kD.cells (.sl 24 1 (List.map jL m))) 0)]))), (7, (jW l.length)), (8, (jW k))], []⟩) (fun k => k ≤ l.length ∧ fL (xS m) l 0 = fL (xS m) (l.drop k) k) (fun k => l.length - k) 0 wk ⟨Nat.zero_le _, by rw [List.drop_zero]⟩ ?_
 rintro k ⟨hk, hv⟩
 refine jB <| kx [(9, (vb (decide (((k : Nat) : Int) < ((l.length : Nat) : Int)))))] [] (zE xK <| zZ) ?_
 refine jB <| jH rfl (fun h1 => ?_) (fun h1 => ?_)
 ·replace h1 := of_decide_eq_true h1
  have hrl := (kO (d := []) hl (show k < l.length by omega)).2
  refine jF <| jB <| jI <| jB <| kx [(5, (jW k))] [] (zM <| zM <| zZ) ?_
  refine jB <| kx [(16, (vb (xS m (l.getD k []))))] [] (zM <| zM <| zM <| zE (xM vJ k ([] : List (jE))) <| zE (xZ gP) <| zE (oCd (ds := [(.sl 45 4 (List.map jK (l.getD k [])))]) (caps := [(.cptr 1000000 (kD.cells (.sl 24 1 (List.map jL m))) 0)]) (m_chk1 (l.getD k []) (kO (d := []) hl (show k < l.length by omega)) m hm h0 (by first | assumption | omega))) <| zZ) ?_
  refine jH (b := (xS m (l.getD k []))) rfl (fun h2 => ?_) (fun h2 => ?_)
  ·have hix := fst0_at (xS m) [] l k (by omega) h2
   refine jB <| kx [(4, (jW k))] [] (zM <| zM <| zZ) ?_
   refine jG ⟨_, (.tmp (d := (.val (.int .i64 (((k : Nat) : Int))))) rfl .nil), ?_⟩
   rw [hv, hix]; rfl
  ·have hix := fst0_step (xS m) [] l k (by omega) h2
   refine jF <| kx [(8, (jW (k + 1)))] [] (zE (vU (k + 1)) <| zM <| zZ) ?_
   exact ⟨(k + 1), wk, ⟨by omega, hv.trans hix⟩, (by omega)⟩
 ·replace h1 := of_decide_eq_false h1
  have hix := fst0_end (xS m) l k (by omega)
  refine kL <| jB <| kx [(4, (vi (-1)))] [] (zM <| zZ) ?_
  refine jG ⟨_, (.tmp (d := (.val (.int .i64 (-1)))) rfl .nil), ?_⟩
  rw [hv, hix]; rfl
theorem m_chkA (l : List (List jE)) (hl : vR 1048576 l) (m : List (List jE)) (hm : vR 1048576 m) (hb : l.length ≤ 140737488355328) (h0 : 0 < m.length) : jV Tryz.prog 127 [(.sl 24 1 (List.map jL l)), (.clo 128 [(.cptr 1000000 (kD.cells (.sl 24 1 (List.map jL m))) 0)])] (.val (.bool ((l.any (xS m))))) := by
 refine jJ Tryz.func127 rfl cb127 rfl ?_
 show qI _ _ _ _ ⟨[(0, (vl 24 1 jL l)), (1, (.d (.clo 128 [(.cptr 1000000 (kD.cells (.sl 24 1 (List.map jL m))) 0)])))], []⟩
 refine jB <| kx [] [] (zM <| zZ) ?_
 refine jB <| kx [(4, (vb (decide (0 ≤ (fL (xS m) l 0)))))] [] (zM <| zM <| zE (jX (m_chkAI l hl m hm hb h0)) <| zE oGe <| zM <| zZ) ?_
 refine jG ⟨_, (.tmp (d := (.val (.bool (decide (0 ≤ (fL (xS m) l 0)))))) rfl .nil), ?_⟩
 rw [fst0_any]; rfl
theorem m_chk (m : List (List jE)) (hm : vR 1048576 m) : jV Tryz.prog 72 [(.sl 24 1 (List.map jL m))] (.val (.int .i64 ((((nE m) : Nat) : Int)))) := by
 have hmb := hm.2
 refine jJ Tryz.func72 rfl cb72 rfl ?_
 show qI _ _ _ _ ⟨[(0, (vl 24 1 jL m))], []⟩
 refine jB <| kx [(1, (.ref 0 0))] [(0, some (bx (.sl 24 1 (List.map jL m))))] (zN (vL 0) <| zM <| zZ) ?_
 refine jB <| jB <| kx [(24, (vb (((decide (((m.length : Nat) : Int) < 1) || decide (64 < ((m.length : Nat) : Int))) || decide ((((m.getD 0 []).length : Nat) : Int) < 1)) || decide (64 < (((m.getD 0 []).length : Nat) : Int)))))] [] ?_ ?_
 ·refine zR (qP yV) <| zE (vG vJ) <| zE xK <| zE (oV (vb (decide (((m.length : Nat) : Int) < 1))) (kY (by kernel_rfl))) <| ?_
  rcases hb1 : (decide (((m.length : Nat) : Int) < 1)) with _ | _
  ·replace hb1 := of_decide_eq_false hb1
   refine zR (qP yV) <| zE (vG vJ) <| zE hC <| zE cU <| zE (oV (vb (false || decide (64 < ((m.length : Nat) : Int)))) (kY (by kernel_rfl))) <| ?_
   rcases hb2 : (false || decide (64 < ((m.length : Nat) : Int))) with _ | _
   ·replace hb2 := of_decide_eq_false (p := (64 < ((m.length : Nat) : Int))) hb2
    refine zR (qP yV) <| zE (xM vJ 0 ([] : List (jE))) <| zE (xZ gP) <| zE (vG uN (L := (m.getD 0 []))) <| zE xK <| zE cU <| zE (oV (vb (false || decide ((((m.getD 0 []).length : Nat) : Int) < 1))) (kY (by kernel_rfl))) <| ?_
    rcases hb3 : (false || decide ((((m.getD 0 []).length : Nat) : Int) < 1)) with _ | _
    ·replace hb3 := of_decide_eq_false (p := ((((m.getD 0 []).length : Nat) : Int) < 1)) hb3
     exact zR (qP yV) <| zE (xM vJ 0 ([] : List (jE))) <| zE (xZ gP) <| zE (vG uN (L := (m.getD 0 []))) <| zE hC <| zE cU <| zZ
    ·replace hb3 := of_decide_eq_true (p := ((((m.getD 0 []).length : Nat) : Int) < 1)) hb3
     exact zK <| zK <| zK <| zK <| zK <| zE vY <| zZ
   ·replace hb2 := of_decide_eq_true (p := (64 < ((m.length : Nat) : Int))) hb2
    exact zK <| zK <| zK <| zK <| zK <| zE vY <| zM <| zK <| zK <| zK <| zK <| zK <| zE vY <| zZ
  ·replace hb1 := of_decide_eq_true hb1
   exact zK <| zK <| zK <| zE vY <| zM <| zK <| zK <| zK <| zK <| zK <| zE vY <| zM <| zK <| zK <| zK <| zK <| zK <| zE vY <| zZ
 refine jH rfl (fun h4 => ?_) (fun h4 => ?_)
 ·refine jB <| kx [(2, (jW 1))] [] (zM <| zZ) ?_
  refine jG ⟨_, (.tmp (d := (.val (.int .i64 (1)))) rfl .nil), ?_⟩
  rw [mchk_1 h4]; rfl
 ·have h0 := shp_0 h4
  refine jF <| jB <| jB <| kx [(27, (vb (m.any (xS m))))] [] (zR (qP yV) <| zE (oMf [0]) <| zC (oCg [(0, (kD.cells (.sl 24 1 (List.map jL m))))] [(vl 24 1 jL m), (.clo 128 [0])] (m_chkA m hm m hm (by assumption) (by omega)) (.d (.c (css := [(kD.cells (.sl 24 1 (List.map jL m)))]) (.cons (.head _) .nil) .nil)) (.val _)) <| zZ) ?_
  refine jH (b := (m.any (xS m))) rfl (fun h5 => ?_) (fun h5 => ?_)
  ·refine jB <| kx [(2, (jW 1))] [] (zM <| zZ) ?_
   refine jG ⟨_, (.tmp (d := (.val (.int .i64 (1)))) rfl .nil), ?_⟩
   rw [mchk_2 h5]; rfl
  ·refine jF <| jB <| kx [(2, (jW 0))] [] (zM <| zZ) ?_
   refine jG ⟨_, (.tmp (d := (.val (.int .i64 (0)))) rfl .nil), ?_⟩
   rw [mchk_3 h4 h5]; rfl
end Go.Proofs.YtnajallgoaiahaaGreatDoor
namespace Go.Proofs.YtnajallgoaiahaaGreatDoor
open Go.Fid
set_option maxRecDepth 4000
set_option linter.unusedVariables false
set_option linter.unusedSimpArgs false
theorem cb132 : callB Tryz.prog 132 = true := by kernel_rfl
theorem cb213 : callB Tryz.prog 213 = true := by kernel_rfl
theorem cb246 : callB Tryz.prog 246 = true := by kernel_rfl
theorem m_dot (l : List jE) (hl : zG 1048576 l) (m : List jE) (hm : zG 1048576 m) (hlm : l.length = m.length) (hl4 : l.length ≤ 64) : jV Tryz.prog 246 [(.sl 45 4 (List.map jK l)), (.sl 45 4 (List.map jK m))] (jK (jT (dotR l m))) := by
 have hlb := hl.2
 have hmb := hm.2
 let y1 := (jE.mk (jD.mk false []) (jD.mk false []))
 refine jJ Tryz.func246 rfl cb246 rfl ?_
 show qI _ _ _ _ ⟨[(0, (vl 45 4 jK l)), (1, (vl 45 4 jK m))], []⟩
 refine jB <| kx [(4, (.ref 0 0))] [(0, some (bx (jK y1)))] (zN (qS 0 qX uA) <| zZ) ?_
 refine jB <| kx [(5, (.ref 1 0))] [(1, some (bx (jK (jT ((0 : Int) : Rat)))))] (zE (jX (f_whole 0 (by decide) (by decide))) <| zN (qS 1 qX uA) <| zT (qC jR) <| zZ) ?_
 refine jB <| jB <| kx [(9, (vl 45 4 jK l)), (10, (jW l.length)), (11, (jW 0))] [] (zM <| zE (vG uN) <| zM <| zZ) ?_
 refine jI <| kN (α := Nat × Rat) (fun (i, s) => ⟨[(1, (vl 45 4 jK m)), (4, (.ref 0 0)), (5, (.ref 1 0)), (9, (vl 45 4 jK l)), (10, (jW l.length)), (11, (jW i))], [(0, some (bx (jK y1))), (1, some (bx (jK (jT s))))]⟩) (fun (i, s) => i ≤ l.length ∧ s = dotT l m i) (fun (i, s) => l.length - i) (0, 0) wk ⟨Nat.zero_le _, rfl⟩ ?_
 rintro ⟨i, s⟩ ⟨hi, hs⟩
 have hql : QL s 134217800 := hs ▸ dot_ql1 hl hm (by omega)
 refine jB <| kx [(12, (vb (decide (((i : Nat) : Int) < ((l.length : Nat) : Int)))))] [] (zE xK <| zZ) ?_
 refine jB <| jH rfl (fun h1 => ?_) (fun h1 => ?_)
 ·replace h1 := of_decide_eq_true h1
  refine jF <| jB <| jI <| jB <| kx [(6, (jW i)), (7, (.ref 2 0))] [(2, some (bx (jK (l.getD i y1))))] (zM <| zE (xM uN i y1) <| zE (dK jR) <| zN (qS 2 qX uA) <| zM <| zT (qC jR) <| zZ) ?_
  refine jB <| kx [(26, (vb (((dA (jN (l.getD i y1))) != 0) && ((dA (jN (m.getD i y1))) != 0))))] [] ?_ ?_
  ·refine zR (kR jR) <| zE (jX (f_sign (l.getD i y1) (jN (l.getD i y1)) (jP (qN hl.1 (show i < l.length by omega)) (by decide)))) <| zE cS <| zE (oV (vb ((dA (jN (l.getD i y1))) != 0)) (kY (by kernel_rfl))) <| ?_
   rcases hb2 : ((dA (jN (l.getD i (jE.mk (jD.mk false []) (jD.mk false []))))) != 0) with _ | _
   ·replace hb2 := bne_eq_false_iff_eq.1 hb2
    exact zK <| zK <| zK <| zK <| zK <| zK <| zE yI <| zZ
   ·replace hb2 := bne_iff_ne.1 hb2
    exact zM <| zM <| zE (xM uN i y1) <| zE (dK jR) <| zE (jX (f_sign (m.getD i y1) (jN (m.getD i y1)) (jP (qN hm.1 (show i < m.length by omega)) (by decide)))) <| zE cS <| zE eV <| zZ
  refine jH rfl (fun h3 => ?_) (fun h3 => ?_)
  ·refine kd [] [(1, some (bx (jK (jT (s + ((jN (l.getD i y1)) * (jN (m.getD i y1))))))))] mo (wR (kR jR) <| wR (kR jR) <| wM <| wM <| wE (xM uN i y1) <| wE (dK jR) <| wE (jX (eC (l.getD i y1) (m.getD i y1) (jN (l.getD i y1)) (jN (m.getD i y1)) (jP (qN hl.1 (show i < l.length by omega)) (by decide)) (jP (qN hm.1 (show i < m.length by omega)) (by decide)))) <| wE (jX (f_add (jT s) (jT ((jN (l.getD i y1)) * (jN (m.getD i y1)))) s ((jN (l.getD i y1)) * (jN (m.getD i y1))) (jP (kA hql) (by decide)) (jP (kA (kM (k := 2097152) (qN hl.1 (show i < l.length by omega)).ql (qN hm.1 (show i < m.length by omega)).ql (by decide))) (by decide)))) <| wT (qC jR) <| wZ) ?_
   refine kx [(11, (jW (i + 1)))] [] (zE (vU (i + 1)) <| zM <| zZ) ?_
   exact ⟨(i + 1, s + (jN (l.getD i (jE.mk (jD.mk false []) (jD.mk false [])))) * (jN (m.getD i (jE.mk (jD.mk false []) (jD.mk false []))))), wk, ⟨by omega, by rw [hs]; rfl⟩, (by first | omega | (dsimp only; omega))⟩
  ·refine jF <| kx [(11, (jW (i + 1)))] [] (zE (vU (i + 1)) <| zM <| zZ) ?_
   exact ⟨(i + 1, s), wk, ⟨by omega, hs.trans (dotT_skip (dot_sk h3))⟩, (by first | omega | (dsimp only; omega))⟩
 ·replace h1 := of_decide_eq_false h1
  refine kL <| jB <| kx [] [(0, some (bx (jK (jT s))))] (zR (kR jR) <| zT (qC jR) <| zZ) ?_
  refine jG ⟨_, (kU (cs := (bx (jK (jT s)))) (d := (jK (jT s))) rfl rfl jR rfl rfl .nil), ?_⟩
  obtain rfl : i = l.length := by omega
  rw [hs]; rfl
theorem m_Dot (l : List jE) (hl : zG 1048576 l) (m : List jE) (hm : zG 134217800 m) (hlm : l.length = m.length) (hl4 : l.length ≤ 64) : jV Tryz.prog 132 [(.sl 45 4 (List.map jK l)), (.sl 45 4 (List.map jK m))] (.tup [(jK (jT (dotR l m))), (.val (.int .i64 (((0 : Nat) : Int))))]) := by
 have hlb := hl.2
 have hmb := hm.2
 let y1 := (jE.mk (jD.mk false []) (jD.mk false []))
 refine jJ Tryz.func132 rfl cb132 rfl ?_
 show qI _ _ _ _ ⟨[(0, (vl 45 4 jK l)), (1, (vl 45 4 jK m))], []⟩
 refine jB <| kx [(4, (.ref 0 0))] [(0, some (bx (jK y1)))] (zN (qS 0 qX uA) <| zM <| zZ) ?_
 refine jB <| jB <| kx [(13, (vb false))] [] (zM <| zE (vG uN) <| zM <| zE (vG uN) <| zE (xI false cS (by exact bne_eq_false_iff_eq.2 (congrArg (fun z : Nat => (z : Int)) hlm))) <| zZ) ?_
 refine qA ?_
 refine jF <| jB <| kx [(6, (.ref 1 0))] [(1, some (bx (jK (jT ((0 : Int) : Rat)))))] (zE (jX (f_whole 0 (by decide) (by decide))) <| zN (qS 1 qX uA) <| zT (qC jR) <| zZ) ?_
 refine jB <| jB <| kx [(16, (vl 45 4 jK l)), (17, (jW l.length)), (18, (jW 0))] [] (zM <| zE (vG uN) <| zM <| zZ) ?_
 refine jI <| kN (α := Nat × Rat) (fun (i, s) => ⟨[(1, (vl 45 4 jK m)), (4, (.ref 0 0)), (6, (.ref 1 0)), (16, (vl 45 4 jK l)), (17, (jW l.length)), (18, (jW i))], [(0, some (bx (jK y1))), (1, some (bx (jK (jT s))))]⟩) (fun (i, s) => i ≤ l.length ∧ s = dotT l m i) (fun (i, s) => l.length - i) (0, 0) wk ⟨Nat.zero_le _, rfl⟩ ?_
 rintro ⟨i, s⟩ ⟨hi, hs⟩
 have hql : QL s 8800000000 := hs ▸ dot_ql2 hl hm (by omega)
 refine jB <| kx [(19, (vb (decide (((i : Nat) : Int) < ((l.length : Nat) : Int)))))] [] (zE xK <| zZ) ?_
 refine jB <| jH rfl (fun h1 => ?_) (fun h1 => ?_)
 ·replace h1 := of_decide_eq_true h1
  refine jF <| jB <| jI <| jB <| kx [(7, (jW i)), (8, (.ref 2 0))] [(2, some (bx (jK (l.getD i y1))))] (zM <| zE (xM uN i y1) <| zE (dK jR) <| zN (qS 2 qX uA) <| zM <| zT (qC jR) <| zZ) ?_
  refine kd [] [(1, some (bx (jK (jT (s + ((jN (l.getD i y1)) * (jN (m.getD i y1))))))))] mo (wR (kR jR) <| wR (kR jR) <| wM <| wM <| wE (xM uN i y1) <| wE (dK jR) <| wE (jX (eC (l.getD i y1) (m.getD i y1) (jN (l.getD i y1)) (jN (m.getD i y1)) (jP (qN hl.1 (show i < l.length by omega)) (by decide)) (jP (qN hm.1 (show i < m.length by omega)) (by decide)))) <| wE (jX (f_add (jT s) (jT ((jN (l.getD i y1)) * (jN (m.getD i y1)))) s ((jN (l.getD i y1)) * (jN (m.getD i y1))) (jP (kA hql) (by decide)) (jP (kA (kM (k := 135266376) (qN hl.1 (show i < l.length by omega)).ql (qN hm.1 (show i < m.length by omega)).ql (by decide))) (by decide)))) <| wT (qC jR) <| wZ) ?_
  refine kx [(18, (jW (i + 1)))] [] (zE (vU (i + 1)) <| zM <| zZ) ?_
  exact ⟨(i + 1, s + (jN (l.getD i (jE.mk (jD.mk false []) (jD.mk false [])))) * (jN (m.getD i (jE.mk (jD.mk false []) (jD.mk false []))))), wk, ⟨by omega, by rw [hs]; rfl⟩, (by first | omega | (dsimp only; omega))⟩
 ·replace h1 := of_decide_eq_false h1
  refine kL <| jB <| kx [(5, (jW 0))] [(0, some (bx (jK (jT s))))] (zR (kR jR) <| zT (qC jR) <| zM <| zZ) ?_
  refine jG ⟨_, (kU (cs := (bx (jK (jT s)))) (d := (jK (jT s))) rfl rfl jR rfl rfl (.tmp (d := (.val (.int .i64 (0)))) rfl .nil)), ?_⟩
  obtain rfl : i = l.length := by omega
  rw [hs]; rfl
theorem m_app (m : List (List jE)) (hm : vR 1048576 m) (v : List jE) (hv : zG 1048576 v) (hc : ∀ r ∈ m, r.length = v.length) (hv4 : v.length ≤ 64) (hm6 : m.length ≤ 64) : jV Tryz.prog 213 [(.sl 24 1 (List.map jL m)), (.sl 45 4 (List.map jK v))] (.sl 45 4 (List.map jK (appR m v))) := by
 have hmb := hm.2
 have hvb := hv.2
 refine jJ Tryz.func213 rfl cb213 rfl ?_
 show qI _ _ _ _ ⟨[(0, (vl 24 1 jL m)), (1, (vl 45 4 jK v))], []⟩
 refine jB <| kx [] [] (zE (fH 45 4) <| zZ) ?_
 refine jB <| kx [(5, (.own 0 45 4 0))] [(0, some (xD jK []))] (zO 0 45 4 <| zZ) ?_
 refine jB <| jB <| kx [(8, (vl 24 1 jL m)), (9, (jW m.length)), (10, (jW 0))] [] (zM <| zE (vG vJ) <| zM <| zZ) ?_
 refine jI <| kN (α := Nat × List jE) (fun (i, o) => ⟨[(1, (vl 45 4 jK v)), (5, (.own 0 45 4 o.length)), (8, (vl 24 1 jL m)), (9, (jW m.length)), (10, (jW i))], [(0, some (xD jK o))]⟩) (fun (i, o) => i ≤ m.length ∧ o = (m.take i).map (fun r => jT (dotR r v))) (fun (i, o) => m.length - i) (0, []) wk ⟨Nat.zero_le _, by simp⟩ ?_
 rintro ⟨i, o⟩ ⟨hi, ho⟩
 have hol : o.length = i := by rw [ho, List.length_map, List.length_take]; omega
 refine jB <| kx [(11, (vb (decide (((i : Nat) : Int) < ((m.length : Nat) : Int)))))] [] (zE xK <| zZ) ?_
 refine jB <| jH rfl (fun h1 => ?_) (fun h1 => ?_)
 ·replace h1 := of_decide_eq_true h1
  have hcl := mcol_at hc (show i < m.length by omega)
  refine jF <| jB <| jI <| jB <| kx [(7, (vl 45 4 jK (m.getD i [])))] [] (zE (xM vJ i ([] : List (jE))) <| zE (xZ gP) <| zM <| zZ) ?_
  refine kf [(5, (.own 0 45 4 ((o ++ [(jT (dotR (m.getD i []) v))]).length)))] [(0, some (xD jK (o ++ [(jT (dotR (m.getD i []) v))])))] (zM <| zM <| zM <| zE (jX (m_dot (m.getD i []) (kO (d := []) hm (show i < m.length by omega)) v hv (by omega) (by omega))) <| zE (eI uN qX uA) <| zAS jK o [(jT (dotR (m.getD i []) v))] rfl uN qX by45 <| zM <| zF) ?_
  refine kx [(10, (jW (i + 1)))] [] (zE (vU (i + 1)) <| zM <| zZ) ?_
  exact ⟨(i + 1, o ++ [jT (dotR (m.getD i []) v)]), wk, ⟨by omega, by rw [ho]; exact appR_step (by omega)⟩, (by first | omega | (dsimp only; omega))⟩
 ·replace h1 := of_decide_eq_false h1
  refine kL <| jB <| kx [(4, (.own 0 45 4 o.length))] [] (zM <| zM <| zZ) ?_
  refine qE (vZ (t := 4) (k := 0) (es := List.map jK o) rfl rfl (mA _ _ (fun _ => rfl)) (vC _ _ rfl) (cB jK o (fun _ => rfl) rfl)) ?_
  refine jG ⟨_, (.tmp (d := (.sl 45 4 (List.map jK o))) rfl .nil), ?_⟩
  rw [ho, show i = m.length by omega, List.take_length]; rfl
end Go.Proofs.YtnajallgoaiahaaGreatDoor
namespace Go.Proofs.YtnajallgoaiahaaGreatDoor
open Go.Fid
set_option maxRecDepth 4000
set_option linter.unusedVariables false
set_option linter.unusedSimpArgs false
theorem cb75 : callB Tryz.prog 75 = true := by kernel_rfl
theorem cb131 : callB Tryz.prog 131 = true := by kernel_rfl
theorem cb211 : callB Tryz.prog 211 = true := by kernel_rfl
theorem cb212 : callB Tryz.prog 212 = true := by kernel_rfl
theorem m_apl1 (m : List (List jE)) (hm : vR 1048576 m) (h0 : 0 < m.length) : jV Tryz.prog 212 [(.cptr 1000000 (kD.cells (.sl 24 1 (List.map jL m))) 0)] (.val (.int .i64 (((((m).getD 0 []).length : Nat) : Int)))) := by
 have hmb := hm.2
 have hrb := (kO (d := []) hm h0).2
 refine jJ Tryz.func212 rfl cb212 rfl ?_
 show qI _ _ _ _ ⟨[(0, (.d (.cptr 1000000 (kD.cells (.sl 24 1 (List.map jL m))) 0)))], []⟩
 refine jB <| kx [] [] (zM <| zZ) ?_
 refine jB <| kx [(1, (jW ((m.getD 0 []).length)))] [] (zE (xZ yV) <| zE (xM vJ 0 ([] : List (jE))) <| zE (xZ gP) <| zE (vG uN (L := (m.getD 0 []))) <| zM <| zZ) ?_
 refine jG ⟨_, (.tmp (d := (.val (.int .i64 ((((m.getD 0 []).length : Nat) : Int))))) rfl .nil), ?_⟩
 rfl
theorem m_list (m : List (List jE)) (hm : vR 1048576 m) (v : List jE) (hv : zG 1048576 v) (q : List (List jE)) (hq : vR 1048576 q) (hr : mF m m.length v.length) (hvv : eT v = true) (hq0 : (q.getD 0 []).length = v.length) (hqm : 0 < q.length) : jV Tryz.prog 211 [(.sl 24 1 (List.map jL m)), (.sl 45 4 (List.map jK v)), (.clo 212 [(.cptr 1000000 (kD.cells (.sl 24 1 (List.map jL q))) 0)])] (.val (.int .i64 (((0 : Nat) : Int)))) := by
 have hvb := hv.2
 have hc0 := rect_chk hr
 have hmb := hr.r64
 refine jJ Tryz.func211 rfl cb211 rfl ?_
 show qI _ _ _ _ ⟨[(0, (vl 24 1 jL m)), (1, (vl 45 4 jK v)), (2, (.d (.clo 212 [(.cptr 1000000 (kD.cells (.sl 24 1 (List.map jL q))) 0)])))], []⟩
 refine jB <| kx [] [] (zM <| zZ) ?_
 refine jB <| jB <| kx [(7, (jW (nE m)))] [] (zM <| zE (jX (m_chk m hm)) <| zM <| zZ) ?_
 refine jB <| kx [(11, (vb false))] [] (zM <| zE (xI false cS (by exact bne_eq_false_iff_eq.2 (by rw [show (nE m) = 0 from hc0]; rfl))) <| zZ) ?_
 refine qA ?_
 refine jF <| jB <| jB <| kx [(15, (vb false))] [] (zM <| zE (xI true (jX (m_can v hv (by assumption))) (by exact hvv)) <| zE mM <| zZ) ?_
 refine qA ?_
 refine jF <| jB <| jB <| kx [(20, (vb false))] [] (zM <| zE (vG uN) <| zM <| zE (oCd (ds := []) (caps := [(.cptr 1000000 (kD.cells (.sl 24 1 (List.map jL q))) 0)]) (m_apl1 q hq hqm)) <| zE (xI false cS (by exact bne_eq_false_iff_eq.2 (congrArg (fun z : Nat => (z : Int)) hq0.symm))) <| zZ) ?_
 refine qA ?_
 refine jF <| jB <| kx [(6, (jW 0))] [] (zM <| zZ) ?_
 refine jG ⟨_, (.tmp (d := (.val (.int .i64 (((0 : Nat) : Int))))) rfl .nil), ?_⟩
 rfl
theorem m_aply (m : List (List jE)) (hm : vR 1048576 m) (v : List jE) (hv : zG 1048576 v) (hr : mF m m.length v.length) (hvv : eT v = true) : jV Tryz.prog 131 [(.sl 24 1 (List.map jL m)), (.sl 45 4 (List.map jK v))] (.tup [(.sl 45 4 (List.map jK (appR m v))), (.val (.int .i64 (((0 : Nat) : Int))))]) := by
 have hvb := hv.2
 have hmb := hr.r64
 have hm1 := hr.r1
 have hv64 := hr.c64
 have hq0 := (hr.at (i := 0) hm1).1
 refine jJ Tryz.func131 rfl cb131 rfl ?_
 show qI _ _ _ _ ⟨[(0, (vl 24 1 jL m)), (1, (vl 45 4 jK v))], []⟩
 refine jB <| kx [(2, (.ref 0 0))] [(0, some (bx (.sl 24 1 (List.map jL m))))] (zN (vL 0) <| zE (fH 45 4) <| zM <| zZ) ?_
 refine jB <| jB <| kx [(6, (jW 0))] [] (zR (qP yV) <| zM <| zE (oMf [0]) <| zC (oCg [(0, (kD.cells (.sl 24 1 (List.map jL m))))] [(vl 24 1 jL m), (vl 45 4 jK v), (.clo 212 [0])] (m_list m hm v hv m hm hr hvv (by assumption) (by omega)) (.d (.d (.c (css := [(kD.cells (.sl 24 1 (List.map jL m)))]) (.cons (.head _) .nil) .nil))) (.val _)) <| zM <| zZ) ?_
 refine jB <| kx [(12, (vb false))] [] (zM <| zE (xI false cS) <| zZ) ?_
 refine qA ?_
 refine jF <| jB <| kx [(4, (vl 45 4 jK (appR m v))), (5, (jW 0))] [] (zR (qP yV) <| zM <| zE (jX (m_app m hm v hv (fun r h => (hr.hc r h).1) (by omega) (by omega))) <| zM <| zM <| zZ) ?_
 refine jG ⟨_, (.tmp (d := (.sl 45 4 (List.map jK (appR m v)))) rfl (.tmp (d := (.val (.int .i64 (((0 : Nat) : Int))))) rfl .nil)), ?_⟩
 rfl
theorem m_cov (m : List (List jE)) (hm : vR 1048576 m) (a : List jE) (ha : zG 1048576 a) (v : List jE) (hv : zG 1048576 v) (hr : mF m m.length v.length) (hvv : eT v = true) (hal : a.length = m.length) (hvl : v.length = m.length) : jV Tryz.prog 75 [(.sl 24 1 (List.map jL m)), (.sl 45 4 (List.map jK a)), (.sl 45 4 (List.map jK v))] (jK (jT (covR m a v))) := by
 have hab := ha.2
 have hvb := hv.2
 have hmb := hr.r64
 have hm1 := hr.r1
 have hv64 := hr.c64
 have hpl := appR_len m v
 refine jJ Tryz.func75 rfl cb75 rfl ?_
 show qI _ _ _ _ ⟨[(0, (vl 24 1 jL m)), (1, (vl 45 4 jK a)), (2, (vl 45 4 jK v))], []⟩
 refine jB <| kx [(6, (.ref 0 0))] [(0, some (bx (jK (jE.mk (jD.mk false []) (jD.mk false [])))))] (zN (qS 0 qX uA) <| zZ) ?_
 refine jB <| kx [(7, (vl 45 4 jK (appR m v)))] [] (zM <| zM <| zE (jX (m_aply m hm v hv hr hvv)) <| zM <| zE uZ <| zE uZ <| zM <| zM <| zZ) ?_
 refine jB <| kx [(9, (.ref 1 0))] [(1, some (bx (jK (jT (dotR a (appR m v))))))] (zM <| zM <| zE (jX (m_Dot a ha (appR m v) (appR_ok hm hv (mcol_le (fun r h => (hr.hc r h).1) hr.c64)) (hal.trans hpl.symm) (by omega))) <| zM <| zE uZ <| zE uZ <| zN (qS 1 qX uA) <| zT (qC jR) <| zM <| zZ) ?_
 refine jB <| kx [] [(0, some (bx (jK (jT (dotR a (appR m v))))))] (zR (kR jR) <| zT (qC jR) <| zZ) ?_
 refine jG ⟨_, (kU (cs := (bx (jK (jT (dotR a (appR m v)))))) (d := (jK (jT (dotR a (appR m v))))) rfl rfl jR rfl rfl .nil), ?_⟩
 rfl
end Go.Proofs.YtnajallgoaiahaaGreatDoor
namespace Go.Proofs.YtnajallgoaiahaaGreatDoor
open Go.Fid
set_option maxRecDepth 4000
set_option linter.unusedVariables false
set_option linter.unusedSimpArgs false
theorem cb190 : callB Tryz.prog 190 = true := by kernel_rfl
theorem cb191 : callB Tryz.prog 191 = true := by kernel_rfl
theorem cb195 : callB Tryz.prog 195 = true := by kernel_rfl
theorem cb197 : callB Tryz.prog 197 = true := by kernel_rfl
theorem cb243 : callB Tryz.prog 243 = true := by kernel_rfl
theorem cY : zU Tryz.prog 83 1 = some 1 := by kernel_rfl
theorem fo83_3 : zU Tryz.prog 83 3 = some 3 := by kernel_rfl
theorem fo95_0 : zU Tryz.prog 95 0 = some 0 := by kernel_rfl
theorem fo95_1 : zU Tryz.prog 95 1 = some 8 := by kernel_rfl
theorem fo161_2 : zU Tryz.prog 161 2 = some 2 := by kernel_rfl
theorem sh86 : qO Tryz.prog 86 = some (false, 1) := by kernel_rfl
theorem j_round (n : Nat) (x : kD) (a : R2) (ha : GL 67108864 a) : jV Tryz.prog 243 [(.cptr 1000000 (kD.cells (.agg [(.val (.int .i64 (((n : Nat) : Int)))), (.val (.int .i64 (((1 : Nat) : Int)))), (.val (.int .i64 (-1))), (x), (.val (.bool (false)))])) 0), (jO (uF a))] (jO (uF a)) := by
 refine jJ Tryz.func243 rfl cb243 rfl ?_
 show qI _ _ _ _ ⟨[(0, (.d (.cptr 1000000 (kD.cells (.agg [(.val (.int .i64 (((n : Nat) : Int)))), (.val (.int .i64 (((1 : Nat) : Int)))), (.val (.int .i64 (-1))), (x), (.val (.bool (false)))])) 0))), (1, (.d (jO (uF a))))], []⟩
 refine jB <| kx [(3, (.ref 0 0)), (4, (.ref 1 0))] [(0, some (bx (jO (uF a)))), (1, some (bx (jO (kG.mk (jE.mk (jD.mk false []) (jD.mk false [])) (jE.mk (jD.mk false []) (jD.mk false []))))))] (zN (vL 0) <| zN (qS 1 uO uY) <| zZ) ?_
 refine jB <| jB <| kx [(9, (vb true))] [] (zM <| zE oNd <| zE (oFc fo161_2) <| zE (xZ zD) <| zE (xI true xK) <| zZ) ?_
 refine gB ?_
 refine jB <| kx [] [(1, some (bx (jO (uF a))))] (zR (kR kZ) <| zT (qC kZ) <| zZ) ?_
 refine jG ⟨_, (kU (cs := (bx (jO (uF a)))) (d := (jO (uF a))) rfl rfl kZ rfl rfl .nil), ?_⟩
 rfl
theorem j_vV (bv : List R2) (hbx : ∀ x ∈ bv, GL 1048576 x) (a : Nat) (ha : a < bv.length) (hbl : bv.length ≤ 1000000) : jV Tryz.prog 190 [(.cptr 1000000 (kD.cells (.sl 61 8 (List.map jO (List.map uF bv)))) 0), (.cptr 1000000 (kD.cells (uW (vT.mk 1 ((a : Nat) : Int) 0 (jE.mk (jD.mk false []) (jD.mk false []))))) 0)] (jO (uF (bv.getD a z2))) := by
 refine jJ Tryz.func190 rfl cb190 rfl ?_
 show qI _ _ _ _ ⟨[(0, (.d (.cptr 1000000 (kD.cells (.sl 61 8 (List.map jO (List.map uF bv)))) 0))), (1, (.d (.cptr 1000000 (kD.cells (uW (vT.mk 1 ((a : Nat) : Int) 0 (jE.mk (jD.mk false []) (jD.mk false []))))) 0)))], []⟩
 refine jB <| kx [(2, (.ref 0 0))] [(0, some (bx (jO (kG.mk (jE.mk (jD.mk false []) (jD.mk false [])) (jE.mk (jD.mk false []) (jD.mk false []))))))] (zN (qS 0 uO uY) <| zZ) ?_
 refine jB <| kx [] [(0, some (bx (jO (uF (bv.getD a z2)))))] (zE (xZ sh86) <| zE (oFc cY) <| zE (xZ zD) <| zE (oXm eA uF a z2 (hj := by first | omega | rfl | (dsimp only; omega)) (h1 := by first | omega | rfl | (dsimp only; omega))) <| zE (dK kZ) <| zT (qC kZ) <| zZ) ?_
 refine jG ⟨_, (kU (cs := (bx (jO (uF (bv.getD a z2))))) (d := (jO (uF (bv.getD a z2)))) rfl rfl kZ rfl rfl .nil), ?_⟩
 rfl
theorem j_gV (wp : kD) (i : Nat) (a : Nat) (zz : R2) (hzz : GL 3 zz) : jV Tryz.prog 191 [(wp), (.val (.int .i64 (((i : Nat) : Int)))), (.cptr 1000000 (kD.cells (uW (vT.mk 1 ((a : Nat) : Int) 0 (jE.mk (jD.mk false []) (jD.mk false []))))) 0), (.cptr 1000000 (kD.cells (jO (uF zz))) 0)] (jO (uF (if ((i : Nat) : Int) = ((a : Nat) : Int) then gw 1 else zz))) := by
 refine jJ Tryz.func191 rfl cb191 rfl ?_
 show qI _ _ _ _ ⟨[(0, (.d (wp))), (1, (jW i)), (2, (.d (.cptr 1000000 (kD.cells (uW (vT.mk 1 ((a : Nat) : Int) 0 (jE.mk (jD.mk false []) (jD.mk false []))))) 0))), (3, (.d (.cptr 1000000 (kD.cells (jO (uF zz))) 0)))], []⟩
 refine jB <| kx [(6, (.ref 0 0))] [(0, some (bx (jO (kG.mk (jE.mk (jD.mk false []) (jD.mk false [])) (jE.mk (jD.mk false []) (jD.mk false []))))))] (zN (qS 0 uO uY) <| zZ) ?_
 refine jB <| jB <| kx [(10, (vb (((i : Nat) : Int) == ((a : Nat) : Int))))] [] (zM <| zE (oFc cY) <| zE (xZ zD) <| zE nF <| zZ) ?_
 refine jH (b := (((i : Nat) : Int) == ((a : Nat) : Int))) rfl (fun h1 => ?_) (fun h1 => ?_)
 ·replace h1 := eq_of_beq h1
  refine jB <| kx [] [(0, some (bx (jO (uF (gw 1)))))] (zE (jX (j_whole 1 (by omega) (by omega))) <| zT (qC kZ) <| zZ) ?_
  refine jG ⟨_, (kU (cs := (bx (jO (uF (gw 1))))) (d := (jO (uF (gw 1)))) rfl rfl kZ rfl rfl .nil), ?_⟩
  rw [if_pos h1]; rfl
 ·replace h1 := ne_of_beq_false h1
  refine jF <| jB <| kx [] [(0, some (bx (jO (uF zz))))] (zE (dK kZ) <| zT (qC kZ) <| zZ) ?_
  refine jG ⟨_, (kU (cs := (bx (jO (uF zz)))) (d := (jO (uF zz))) rfl rfl kZ rfl rfl .nil), ?_⟩
  rw [if_neg h1]; rfl
theorem j_vM (n : Nat) (u : JV) (hu : JOk 1048576 n u) (v : JV) (hv : JOk 1048576 n v) : jV Tryz.prog 195 [(.cptr 1000000 (kD.cells (kC (uD u))) 0), (.cptr 1000000 (kD.cells (kC (uD v))) 0)] (jO (uF (qW u.v v.v))) := by
 refine jJ Tryz.func195 rfl cb195 rfl ?_
 show qI _ _ _ _ ⟨[(0, (.d (.cptr 1000000 (kD.cells (kC (uD u))) 0))), (1, (.d (.cptr 1000000 (kD.cells (kC (uD v))) 0)))], []⟩
 refine jB <| kx [(2, (.ref 0 0))] [(0, some (bx (jO (kG.mk (jE.mk (jD.mk false []) (jD.mk false [])) (jE.mk (jD.mk false []) (jD.mk false []))))))] (zN (qS 0 uO uY) <| zZ) ?_
 refine jB <| kx [] [(0, some (bx (jO (uF (qW u.v v.v)))))] (zE (oFc fo95_0) <| zE (dK kZ) <| zE (oFc fo95_0) <| zE (dK kZ) <| zE (jX (j_mul u.v (gl_up hu.1 (by decide)) v.v (gl_up hv.1 (by decide)))) <| zT (qC kZ) <| zZ) ?_
 refine jG ⟨_, (kU (cs := (bx (jO (uF (qW u.v v.v))))) (d := (jO (uF (qW u.v v.v)))) rfl rfl kZ rfl rfl .nil), ?_⟩
 rfl
theorem j_gM (wp : kD) (i : Nat) (n : Nat) (u : JV) (hu : JOk 1048576 n u) (v : JV) (hv : JOk 1048576 n v) (hi : i < n) : jV Tryz.prog 197 [(wp), (.val (.int .i64 (((i : Nat) : Int)))), (.cptr 1000000 (kD.cells (kC (uD u))) 0), (.cptr 1000000 (kD.cells (kC (uD v))) 0)] (jO (uF (nX (qW u.v (v.g.getD i z2)) (qW v.v (u.g.getD i z2))))) := by
 have hul := hu.2.2
 have hvl := hv.2.2
 refine jJ Tryz.func197 rfl cb197 rfl ?_
 show qI _ _ _ _ ⟨[(0, (.d (wp))), (1, (jW i)), (2, (.d (.cptr 1000000 (kD.cells (kC (uD u))) 0))), (3, (.d (.cptr 1000000 (kD.cells (kC (uD v))) 0)))], []⟩
 refine jB <| kx [(6, (.ref 0 0))] [(0, some (bx (jO (kG.mk (jE.mk (jD.mk false []) (jD.mk false [])) (jE.mk (jD.mk false []) (jD.mk false []))))))] (zN (qS 0 uO uY) <| zZ) ?_
 refine jB <| kd [] [(0, some (bx (jO (uF (nX (qW u.v (v.g.getD i z2)) (qW v.v (u.g.getD i z2)))))))] mo (wE (oFc fo95_0) <| wE (dK kZ) <| wE (oFc fo95_1) <| wE (xZ sh86) <| wM <| wE (oXm eA uF i z2) <| wE (dK kZ) <| wE (jX (j_mul u.v (gl_up hu.1 (by decide)) (v.g.getD i z2) (gl_up (eG hv.2.1 (by decide) i) (by decide)))) <| wE (oFc fo95_0) <| wE (dK kZ) <| wE (oFc fo95_1) <| wE (xZ sh86) <| wM <| wE (oXm eA uF i z2) <| wE (dK kZ) <| wE (jX (j_mul v.v (gl_up hv.1 (by decide)) (u.g.getD i z2) (gl_up (eG hu.2.1 (by decide) i) (by decide)))) <| wE (jX (j_add (qW u.v (v.g.getD i z2)) (gl_up (gl_mul (k := 2097152) hu.1 (eG hv.2.1 (by decide) i) (by decide)) (by decide)) (qW v.v (u.g.getD i z2)) (gl_up (gl_mul (k := 2097152) hv.1 (eG hu.2.1 (by decide) i) (by decide)) (by decide)))) <| wT (qC kZ) <| wZ) ?_
 refine jG ⟨_, (kU (cs := (bx (jO (uF (nX (qW u.v (v.g.getD i z2)) (qW v.v (u.g.getD i z2))))))) (d := (jO (uF (nX (qW u.v (v.g.getD i z2)) (qW v.v (u.g.getD i z2)))))) rfl rfl kZ rfl rfl .nil), ?_⟩
 rfl
end Go.Proofs.YtnajallgoaiahaaGreatDoor
