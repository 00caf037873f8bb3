/- Part 26 of a proof: rules, plain facts, and functions walked. -/
import Derived.Test.YtnajallgoaiahaaGreatDoorM21
import Derived.Test.YtnajallgoaiahaaGreatDoorM25
namespace Go.Proofs.YtnajallgoaiahaaGreatDoor
open Go.Fid
set_option maxRecDepth 4000
set_option linter.unusedVariables false
set_option linter.unusedSimpArgs false
theorem cb72 : callB Tryz.prog 72 = true := by kernel_rfl
theorem cb127 : callB Tryz.prog 127 = true := by kernel_rfl
theorem cb128 : callB Tryz.prog 128 = true := by kernel_rfl
theorem cb129 : callB Tryz.prog 129 = true := by kernel_rfl
theorem cb207 : callB Tryz.prog 207 = true := by kernel_rfl
theorem cb208 : callB Tryz.prog 208 = true := by kernel_rfl
theorem cb209 : callB Tryz.prog 209 = true := by kernel_rfl
theorem cb245 : callB Tryz.prog 245 = true := by kernel_rfl
theorem dR : vI Tryz.prog 34 = some (24, 1) := by kernel_rfl
theorem sh24 : qU Tryz.prog 24 = some (false, 1) := by kernel_rfl
theorem sh34 : qU Tryz.prog 34 = some (false, 1) := by kernel_rfl
theorem m_can1 (x : jJ) (p : Rat) (hx : yT x p 1048576) : jW Tryz.prog 209 [(jL x)] (.val (.bool ((!(jX x))))) := by
 refine jM Tryz.func209 rfl cb209 rfl ?_
 show qJ _ _ _ _ ⟨[(0, (.d (jL x)))], []⟩
 refine jB <| kx [(1, (.ref 0 0))] [(0, some (bx (jL x)))] (zN (uZ 0) <| zM <| zZ) ?_
 refine jB <| kx [(2, (vb (!(jX x))))] [] (zR (kK jO) <| zE (kG (xU x p (jR hx (by decide)))) <| zE cE <| zM <| zZ) ?_
 refine jH ⟨_, (.tmp (d := (.val (.bool (!(jX x))))) rfl .nil), ?_⟩
 rfl
theorem m_canAI (l : List jJ) (hl : yI 1048576 l) (hb : l.length ≤ 140737488355328) : jW Tryz.prog 245 [(.sl 45 4 (List.map jL l)), (.val (.func (.func 209) #[] #[]))] (.val (.int .i64 ((fR (fun x => !(jX x)) l 0)))) := by
 refine jM Tryz.func245 rfl cb245 rfl ?_
 show qJ _ _ _ _ ⟨[(0, (vl 45 4 jL l)), (1, (.d (.val (.func (.func 209) #[] #[]))))], []⟩
 refine jB <| kx [] [] (zM <| zZ) ?_
 refine jB <| jB <| kx [(7, (jN l.length)), (8, (jN 0))] [] (zM <| zE (zB uL) <| zM <| zZ) ?_
 refine jI <| kU (α := Nat) (fun k => ⟨[(0, (vl 45 4 jL l)), (1, (.d (.val (.func (.func 209) #[] #[])))), (7, (jN l.length)), (8, (jN k))], []⟩) (fun k => k ≤ l.length ∧ fR (fun x => !(jX x)) l 0 = fR (fun x => !(jX x)) (l.drop k) k) (fun k => l.length - k) 0 wk ⟨Nat.zero_le _, by rw [List.drop_zero]⟩ ?_
 rintro k ⟨hk, hv⟩
 refine jB <| kx [(9, (vb (decide (((k : Nat) : Int) < ((l.length : Nat) : Int)))))] [] (zE vW <| zZ) ?_
 refine jB <| jK rfl (fun h1 => ?_) (fun h1 => ?_)
 ·replace h1 := of_decide_eq_true h1
  refine jF <| jB <| jI <| jB <| kx [(5, (jN k))] [] (zM <| zM <| zZ) ?_
  refine jB <| kx [(16, (vb (!(jX (l.getD k (jJ.mk (jE.mk false []) (jE.mk false [])))))))] [] (zM <| zM <| zM <| zE (hZ uL k (jJ.mk (jE.mk false []) (jE.mk false []))) <| zE (gH jO) <| zE (kG (m_can1 (l.getD k (jJ.mk (jE.mk false []) (jE.mk false []))) (kH (l.getD k (jJ.mk (jE.mk false []) (jE.mk false [])))) (xI hl.1 (show k < l.length by omega)))) <| zZ) ?_
  refine jK rfl (fun h2 => ?_) (fun h2 => ?_)
  ·have hix := fst0_at (fun x => !(jX x)) (jJ.mk (jE.mk false []) (jE.mk false [])) l k (by omega) h2
   refine jB <| kx [(4, (jN k))] [] (zM <| zM <| zZ) ?_
   refine jH ⟨_, (.tmp (d := (.val (.int .i64 (((k : Nat) : Int))))) rfl .nil), ?_⟩
   rw [hv, hix]; rfl
  ·have hix := fst0_step (fun x => !(jX x)) (jJ.mk (jE.mk false []) (jE.mk false [])) l k (by omega) h2
   refine jF <| kx [(8, (jN (k + 1)))] [] (zE (vJ (k + 1)) <| zM <| zZ) ?_
   exact ⟨(k + 1), wk, ⟨by omega, hv.trans hix⟩, (by omega)⟩
 ·replace h1 := of_decide_eq_false h1
  have hix := fst0_end (fun x => !(jX x)) l k (by omega)
  refine kP <| jB <| kx [(4, (vi (-1)))] [] (zM <| zZ) ?_
  refine jH ⟨_, (.tmp (d := (.val (.int .i64 (-1)))) rfl .nil), ?_⟩
  rw [hv, hix]; rfl
theorem m_canA (l : List jJ) (hl : yI 1048576 l) (hb : l.length ≤ 140737488355328) : jW Tryz.prog 208 [(.sl 45 4 (List.map jL l)), (.val (.func (.func 209) #[] #[]))] (.val (.bool ((l.any (fun x => !(jX x)))))) := by
 refine jM Tryz.func208 rfl cb208 rfl ?_
 show qJ _ _ _ _ ⟨[(0, (vl 45 4 jL l)), (1, (.d (.val (.func (.func 209) #[] #[]))))], []⟩
 refine jB <| kx [] [] (zM <| zZ) ?_
 refine jB <| kx [(4, (vb (decide (0 ≤ (fR (fun x => !(jX x)) l 0)))))] [] (zM <| zM <| zE (kG (m_canAI l hl hb)) <| zE oGe <| zM <| zZ) ?_
 refine jH ⟨_, (.tmp (d := (.val (.bool (decide (0 ≤ (fR (fun x => !(jX x)) l 0)))))) rfl .nil), ?_⟩
 rw [fst0_any]; rfl
theorem m_can (l : List jJ) (hl : yI 1048576 l) (hb : l.length ≤ 140737488355328) : jW Tryz.prog 129 [(.sl 45 4 (List.map jL l))] (.val (.bool ((cN l)))) := by
 refine jM Tryz.func129 rfl cb129 rfl ?_
 show qJ _ _ _ _ ⟨[(0, (vl 45 4 jL l))], []⟩
 refine jB <| kx [] [] (zM <| zZ) ?_
 refine jB <| kx [(2, (vb (!(l.any (fun x => !(jX x))))))] [] (zM <| zE (kG (m_canA l hl hb)) <| zE cE <| zM <| zZ) ?_
 refine jH ⟨_, (.tmp (d := (.val (.bool (!(l.any (fun x => !(jX x))))))) rfl .nil), ?_⟩
 rw [vRow_any]; rfl
theorem m_chk1 (l : List jJ) (hl : yI 1048576 l) (m : List (List jJ)) (hm : nD 1048576 m) (h0 : 0 < m.length) (hlb : l.length ≤ 140737488355328) : jW Tryz.prog 128 [(.sl 45 4 (List.map jL l)), (.cptr 1000000 (jV.cells (.sl 24 1 (List.map jY m))) 0)] (.val (.bool ((gI m l)))) := by
 have hmb := hm.2
 have hrb := (xM (d := []) hm h0).2
 refine jM Tryz.func128 rfl cb128 rfl ?_
 show qJ _ _ _ _ ⟨[(0, (vl 45 4 jL l)), (1, (.d (.cptr 1000000 (jV.cells (.sl 24 1 (List.map jY m))) 0)))], []⟩
 refine jB <| kx [] [] (zM <| zZ) ?_
 refine jB <| kx [(3, (vb ((((l.length : Nat) : Int) != (((m.getD 0 []).length : Nat) : Int)) || !(cN l))))] [] ?_ ?_
 ·refine zM <| zE (zB uL) <| zE (gK sh34) <| zE (hZ dR 0 ([] : List (jJ))) <| zE (gK sh24) <| zE (zB uL (L := (m.getD 0 []))) <| zE oNe <| zE (oV (vb (((l.length : Nat) : Int) != (((m.getD 0 []).length : Nat) : Int))) (uA (by kernel_rfl))) <| ?_
  rcases hb1 : (((l.length : Nat) : Int) != (((m.getD 0 []).length : Nat) : Int)) with _ | _
  ·replace hb1 := bne_eq_false_iff_eq.1 hb1
   exact zM <| zE (kG (m_can l hl hlb)) <| zE cE <| zE oPo <| zM <| zZ
  ·replace hb1 := bne_iff_ne.1 hb1
   exact zK <| zK <| zK <| zE cR <| zM <| zZ
 refine jH ⟨_, (.tmp (d := (.val (.bool (((((l.length : Nat) : Int) != (((m.getD 0 []).length : Nat) : Int)) || !(cN l)))))) rfl .nil), ?_⟩
 rfl
theorem m_chkAI (l : List (List jJ)) (hl : nD 1048576 l) (m : List (List jJ)) (hm : nD 1048576 m) (hb : l.length ≤ 140737488355328) (h0 : 0 < m.length) : jW Tryz.prog 207 [(.sl 24 1 (List.map jY l)), (.clo 128 [(.cptr 1000000 (jV.cells (.sl 24 1 (List.map jY m))) 0)])] (.val (.int .i64 ((fR (gI m) l 0)))) := by
 refine jM Tryz.func207 rfl cb207 rfl ?_
 show qJ _ _ _ _ ⟨[(0, (vl 24 1 jY l)), (1, (.d (.clo 128 [(.cptr 1000000 (jV.cells (.sl 24 1 (List.map jY m))) 0)])))], []⟩
 refine jB <| kx [] [] (zM <| zZ) ?_
 refine jB <| jB <| kx [(7, (jN l.length)), (8, (jN 0))] [] (zM <| zE (zB dR) <| zM <| zZ) ?_
 refine jI <| kU (α := Nat) (fun k => ⟨[(0, (vl 24 1 jY l)), (1, (.d (.clo 128 [(.cptr 1000000 (jV.cells (.sl 24 1 (List.map jY m))) 0)]))), (7, (jN l.length)), (8, (jN k))], []⟩) (fun k => k ≤ l.length ∧ fR (gI m) l 0 = fR (gI m) (l.drop k) k) (fun k => l.length - k) 0 wk ⟨Nat.zero_le _, by rw [List.drop_zero]⟩ ?_
 rintro k ⟨hk, hv⟩
 refine jB <| kx [(9, (vb (decide (((k : Nat) : Int) < ((l.length : Nat) : Int)))))] [] (zE vW <| zZ) ?_
 refine jB <| jK rfl (fun h1 => ?_) (fun h1 => ?_)
 ·replace h1 := of_decide_eq_true h1
  have hrl := (xM (d := []) hl (show k < l.length by omega)).2
  refine jF <| jB <| jI <| jB <| kx [(5, (jN k))] [] (zM <| zM <| zZ) ?_
  refine jB <| kx [(16, (vb (gI m (l.getD k []))))] [] (zM <| zM <| zM <| zE (hZ dR k ([] : List (jJ))) <| zE (gK sh24) <| zE (oCd (ds := [(.sl 45 4 (List.map jL (l.getD k [])))]) (caps := [(.cptr 1000000 (jV.cells (.sl 24 1 (List.map jY m))) 0)]) (m_chk1 (l.getD k []) (xM (d := []) hl (show k < l.length by omega)) m hm h0 (by first | assumption | omega))) <| zZ) ?_
  refine jK (b := (gI m (l.getD k []))) rfl (fun h2 => ?_) (fun h2 => ?_)
  ·have hix := fst0_at (gI m) [] l k (by omega) h2
   refine jB <| kx [(4, (jN k))] [] (zM <| zM <| zZ) ?_
   refine jH ⟨_, (.tmp (d := (.val (.int .i64 (((k : Nat) : Int))))) rfl .nil), ?_⟩
   rw [hv, hix]; rfl
  ·have hix := fst0_step (gI m) [] l k (by omega) h2
   refine jF <| kx [(8, (jN (k + 1)))] [] (zE (vJ (k + 1)) <| zM <| zZ) ?_
   exact ⟨(k + 1), wk, ⟨by omega, hv.trans hix⟩, (by omega)⟩
 ·replace h1 := of_decide_eq_false h1
  have hix := fst0_end (gI m) l k (by omega)
  refine kP <| jB <| kx [(4, (vi (-1)))] [] (zM <| zZ) ?_
  refine jH ⟨_, (.tmp (d := (.val (.int .i64 (-1)))) rfl .nil), ?_⟩
  rw [hv, hix]; rfl
theorem m_chkA (l : List (List jJ)) (hl : nD 1048576 l) (m : List (List jJ)) (hm : nD 1048576 m) (hb : l.length ≤ 140737488355328) (h0 : 0 < m.length) : jW Tryz.prog 127 [(.sl 24 1 (List.map jY l)), (.clo 128 [(.cptr 1000000 (jV.cells (.sl 24 1 (List.map jY m))) 0)])] (.val (.bool ((l.any (gI m))))) := by
 refine jM Tryz.func127 rfl cb127 rfl ?_
 show qJ _ _ _ _ ⟨[(0, (vl 24 1 jY l)), (1, (.d (.clo 128 [(.cptr 1000000 (jV.cells (.sl 24 1 (List.map jY m))) 0)])))], []⟩
 refine jB <| kx [] [] (zM <| zZ) ?_
 refine jB <| kx [(4, (vb (decide (0 ≤ (fR (gI m) l 0)))))] [] (zM <| zM <| zE (kG (m_chkAI l hl m hm hb h0)) <| zE oGe <| zM <| zZ) ?_
 refine jH ⟨_, (.tmp (d := (.val (.bool (decide (0 ≤ (fR (gI m) l 0)))))) rfl .nil), ?_⟩
 rw [fst0_any]; rfl
theorem m_chk (m : List (List jJ)) (hm : nD 1048576 m) : jW Tryz.prog 72 [(.sl 24 1 (List.map jY m))] (.val (.int .i64 ((((mchk m) : Nat) : Int)))) := by
 have hmb := hm.2
 refine jM Tryz.func72 rfl cb72 rfl ?_
 show qJ _ _ _ _ ⟨[(0, (vl 24 1 jY m))], []⟩
 refine jB <| kx [(1, (.ref 0 0))] [(0, some (bx (.sl 24 1 (List.map jY m))))] (zN (uZ 0) <| zM <| zZ) ?_
 refine jB <| jB <| kx [(24, (vb (((decide (((m.length : Nat) : Int) < 1) || decide (64 < ((m.length : Nat) : Int))) || decide ((((m.getD 0 []).length : Nat) : Int) < 1)) || decide (64 < (((m.getD 0 []).length : Nat) : Int)))))] [] ?_ ?_
 ·refine zR (uC sh34) <| zE (zB dR) <| zE vW <| zE (oV (vb (decide (((m.length : Nat) : Int) < 1))) (uA (by kernel_rfl))) <| ?_
  rcases hb1 : (decide (((m.length : Nat) : Int) < 1)) with _ | _
  ·replace hb1 := of_decide_eq_false hb1
   refine zR (uC sh34) <| zE (zB dR) <| zE yN <| zE oPo <| zE (oV (vb (false || decide (64 < ((m.length : Nat) : Int)))) (uA (by kernel_rfl))) <| ?_
   rcases hb2 : (false || decide (64 < ((m.length : Nat) : Int))) with _ | _
   ·replace hb2 := of_decide_eq_false (p := (64 < ((m.length : Nat) : Int))) hb2
    refine zR (uC sh34) <| zE (hZ dR 0 ([] : List (jJ))) <| zE (gK sh24) <| zE (zB uL (L := (m.getD 0 []))) <| zE vW <| zE oPo <| zE (oV (vb (false || decide ((((m.getD 0 []).length : Nat) : Int) < 1))) (uA (by kernel_rfl))) <| ?_
    rcases hb3 : (false || decide ((((m.getD 0 []).length : Nat) : Int) < 1)) with _ | _
    ·replace hb3 := of_decide_eq_false (p := ((((m.getD 0 []).length : Nat) : Int) < 1)) hb3
     exact zR (uC sh34) <| zE (hZ dR 0 ([] : List (jJ))) <| zE (gK sh24) <| zE (zB uL (L := (m.getD 0 []))) <| zE yN <| zE oPo <| zZ
    ·replace hb3 := of_decide_eq_true (p := ((((m.getD 0 []).length : Nat) : Int) < 1)) hb3
     exact zK <| zK <| zK <| zK <| zK <| zE cR <| zZ
   ·replace hb2 := of_decide_eq_true (p := (64 < ((m.length : Nat) : Int))) hb2
    exact zK <| zK <| zK <| zK <| zK <| zE cR <| zM <| zK <| zK <| zK <| zK <| zK <| zE cR <| zZ
  ·replace hb1 := of_decide_eq_true hb1
   exact zK <| zK <| zK <| zE cR <| zM <| zK <| zK <| zK <| zK <| zK <| zE cR <| zM <| zK <| zK <| zK <| zK <| zK <| zE cR <| zZ
 refine jK rfl (fun h4 => ?_) (fun h4 => ?_)
 ·refine jB <| kx [(2, (jN 1))] [] (zM <| zZ) ?_
  refine jH ⟨_, (.tmp (d := (.val (.int .i64 (1)))) rfl .nil), ?_⟩
  rw [mchk_1 h4]; rfl
 ·have h0 := shp_0 h4
  refine jF <| jB <| jB <| kx [(27, (vb (m.any (gI m))))] [] (zR (uC sh34) <| zE (fP [0]) <| zC (oCg [(0, (jV.cells (.sl 24 1 (List.map jY m))))] [(vl 24 1 jY m), (.clo 128 [0])] (m_chkA m hm m hm (by assumption) (by omega)) (.d (.c (css := [(jV.cells (.sl 24 1 (List.map jY m)))]) (.cons (.head _) .nil) .nil)) (.val _)) <| zZ) ?_
  refine jK (b := (m.any (gI m))) rfl (fun h5 => ?_) (fun h5 => ?_)
  ·refine jB <| kx [(2, (jN 1))] [] (zM <| zZ) ?_
   refine jH ⟨_, (.tmp (d := (.val (.int .i64 (1)))) rfl .nil), ?_⟩
   rw [mchk_2 h5]; rfl
  ·refine jF <| jB <| kx [(2, (jN 0))] [] (zM <| zZ) ?_
   refine jH ⟨_, (.tmp (d := (.val (.int .i64 (0)))) rfl .nil), ?_⟩
   rw [mchk_3 h4 h5]; rfl
end Go.Proofs.YtnajallgoaiahaaGreatDoor
namespace Go.Proofs.YtnajallgoaiahaaGreatDoor
open Go.Fid
set_option maxRecDepth 4000
set_option linter.unusedVariables false
set_option linter.unusedSimpArgs false
theorem cb132 : callB Tryz.prog 132 = true := by kernel_rfl
theorem cb213 : callB Tryz.prog 213 = true := by kernel_rfl
theorem cb246 : callB Tryz.prog 246 = true := by kernel_rfl
theorem m_dot (l : List jJ) (hl : yI 1048576 l) (m : List jJ) (hm : yI 1048576 m) (hlm : l.length = m.length) (hl4 : l.length ≤ 64) : jW Tryz.prog 246 [(.sl 45 4 (List.map jL l)), (.sl 45 4 (List.map jL m))] (jL (jS (dotR l m))) := by
 have hlb := hl.2
 have hmb := hm.2
 let y1 := (jJ.mk (jE.mk false []) (jE.mk false []))
 refine jM Tryz.func246 rfl cb246 rfl ?_
 show qJ _ _ _ _ ⟨[(0, (vl 45 4 jL l)), (1, (vl 45 4 jL m))], []⟩
 refine jB <| kx [(4, (.ref 0 0))] [(0, some (bx (jL y1)))] (zN (qS 0 qO qR) <| zZ) ?_
 refine jB <| kx [(5, (.ref 1 0))] [(1, some (bx (jL (jS ((0 : Int) : Rat)))))] (zE (kG (f_whole 0 (by decide) (by decide))) <| zN (qS 1 qO qR) <| zT (qF jO) <| zZ) ?_
 refine jB <| jB <| kx [(9, (vl 45 4 jL l)), (10, (jN l.length)), (11, (jN 0))] [] (zM <| zE (zB uL) <| zM <| zZ) ?_
 refine jI <| kU (α := Nat × Rat) (fun (i, s) => ⟨[(1, (vl 45 4 jL m)), (4, (.ref 0 0)), (5, (.ref 1 0)), (9, (vl 45 4 jL l)), (10, (jN l.length)), (11, (jN i))], [(0, some (bx (jL y1))), (1, some (bx (jL (jS s))))]⟩) (fun (i, s) => i ≤ l.length ∧ s = dotT l m i) (fun (i, s) => l.length - i) (0, 0) wk ⟨Nat.zero_le _, rfl⟩ ?_
 rintro ⟨i, s⟩ ⟨hi, hs⟩
 have hql : QL s 134217800 := hs ▸ dot_ql1 hl hm (by omega)
 refine jB <| kx [(12, (vb (decide (((i : Nat) : Int) < ((l.length : Nat) : Int)))))] [] (zE vW <| zZ) ?_
 refine jB <| jK rfl (fun h1 => ?_) (fun h1 => ?_)
 ·replace h1 := of_decide_eq_true h1
  refine jF <| jB <| jI <| jB <| kx [(6, (jN i)), (7, (.ref 2 0))] [(2, some (bx (jL (l.getD i y1))))] (zM <| zE (hZ uL i y1) <| zE (gH jO) <| zN (qS 2 qO qR) <| zM <| zT (qF jO) <| zZ) ?_
  refine jB <| kx [(26, (vb (((vT (kH (l.getD i y1))) != 0) && ((vT (kH (m.getD i y1))) != 0))))] [] ?_ ?_
  ·refine zR (kK jO) <| zE (kG (fF (l.getD i y1) (kH (l.getD i y1)) (jR (xI hl.1 (show i < l.length by omega)) (by decide)))) <| zE oNe <| zE (oV (vb ((vT (kH (l.getD i y1))) != 0)) (uA (by kernel_rfl))) <| ?_
   rcases hb2 : ((vT (kH (l.getD i (jJ.mk (jE.mk false []) (jE.mk false []))))) != 0) with _ | _
   ·replace hb2 := bne_eq_false_iff_eq.1 hb2
    exact zK <| zK <| zK <| zK <| zK <| zK <| zE nA <| zZ
   ·replace hb2 := bne_iff_ne.1 hb2
    exact zM <| zM <| zE (hZ uL i y1) <| zE (gH jO) <| zE (kG (fF (m.getD i y1) (kH (m.getD i y1)) (jR (xI hm.1 (show i < m.length by omega)) (by decide)))) <| zE oNe <| zE oPa <| zZ
  refine jK rfl (fun h3 => ?_) (fun h3 => ?_)
  ·refine kd [] [(1, some (bx (jL (jS (s + ((kH (l.getD i y1)) * (kH (m.getD i y1))))))))] mo (wR (kK jO) <| wR (kK jO) <| wM <| wM <| wE (hZ uL i y1) <| wE (gH jO) <| wE (kG (dL (l.getD i y1) (m.getD i y1) (kH (l.getD i y1)) (kH (m.getD i y1)) (jR (xI hl.1 (show i < l.length by omega)) (by decide)) (jR (xI hm.1 (show i < m.length by omega)) (by decide)))) <| wE (kG (f_add (jS s) (jS ((kH (l.getD i y1)) * (kH (m.getD i y1)))) s ((kH (l.getD i y1)) * (kH (m.getD i y1))) (jR (kM hql) (by decide)) (jR (kM (qQ (k := 2097152) (xI hl.1 (show i < l.length by omega)).ql (xI hm.1 (show i < m.length by omega)).ql (by decide))) (by decide)))) <| wT (qF jO) <| wZ) ?_
   refine kx [(11, (jN (i + 1)))] [] (zE (vJ (i + 1)) <| zM <| zZ) ?_
   exact ⟨(i + 1, s + (kH (l.getD i (jJ.mk (jE.mk false []) (jE.mk false [])))) * (kH (m.getD i (jJ.mk (jE.mk false []) (jE.mk false []))))), wk, ⟨by omega, by rw [hs]; rfl⟩, (by first | omega | (dsimp only; omega))⟩
  ·refine jF <| kx [(11, (jN (i + 1)))] [] (zE (vJ (i + 1)) <| zM <| zZ) ?_
   exact ⟨(i + 1, s), wk, ⟨by omega, hs.trans (dotT_skip (dot_sk h3))⟩, (by first | omega | (dsimp only; omega))⟩
 ·replace h1 := of_decide_eq_false h1
  refine kP <| jB <| kx [] [(0, some (bx (jL (jS s))))] (zR (kK jO) <| zT (qF jO) <| zZ) ?_
  refine jH ⟨_, (qA (cs := (bx (jL (jS s)))) (d := (jL (jS s))) rfl rfl jO rfl rfl .nil), ?_⟩
  obtain rfl : i = l.length := by omega
  rw [hs]; rfl
theorem m_Dot (l : List jJ) (hl : yI 1048576 l) (m : List jJ) (hm : yI 134217800 m) (hlm : l.length = m.length) (hl4 : l.length ≤ 64) : jW Tryz.prog 132 [(.sl 45 4 (List.map jL l)), (.sl 45 4 (List.map jL m))] (.tup [(jL (jS (dotR l m))), (.val (.int .i64 (((0 : Nat) : Int))))]) := by
 have hlb := hl.2
 have hmb := hm.2
 let y1 := (jJ.mk (jE.mk false []) (jE.mk false []))
 refine jM Tryz.func132 rfl cb132 rfl ?_
 show qJ _ _ _ _ ⟨[(0, (vl 45 4 jL l)), (1, (vl 45 4 jL m))], []⟩
 refine jB <| kx [(4, (.ref 0 0))] [(0, some (bx (jL y1)))] (zN (qS 0 qO qR) <| zM <| zZ) ?_
 refine jB <| jB <| kx [(13, (vb false))] [] (zM <| zE (zB uL) <| zM <| zE (zB uL) <| zE (uX false oNe (by exact bne_eq_false_iff_eq.2 (congrArg (fun z : Nat => (z : Int)) hlm))) <| zZ) ?_
 refine kO ?_
 refine jF <| jB <| kx [(6, (.ref 1 0))] [(1, some (bx (jL (jS ((0 : Int) : Rat)))))] (zE (kG (f_whole 0 (by decide) (by decide))) <| zN (qS 1 qO qR) <| zT (qF jO) <| zZ) ?_
 refine jB <| jB <| kx [(16, (vl 45 4 jL l)), (17, (jN l.length)), (18, (jN 0))] [] (zM <| zE (zB uL) <| zM <| zZ) ?_
 refine jI <| kU (α := Nat × Rat) (fun (i, s) => ⟨[(1, (vl 45 4 jL m)), (4, (.ref 0 0)), (6, (.ref 1 0)), (16, (vl 45 4 jL l)), (17, (jN l.length)), (18, (jN i))], [(0, some (bx (jL y1))), (1, some (bx (jL (jS s))))]⟩) (fun (i, s) => i ≤ l.length ∧ s = dotT l m i) (fun (i, s) => l.length - i) (0, 0) wk ⟨Nat.zero_le _, rfl⟩ ?_
 rintro ⟨i, s⟩ ⟨hi, hs⟩
 have hql : QL s 8800000000 := hs ▸ dot_ql2 hl hm (by omega)
 refine jB <| kx [(19, (vb (decide (((i : Nat) : Int) < ((l.length : Nat) : Int)))))] [] (zE vW <| zZ) ?_
 refine jB <| jK rfl (fun h1 => ?_) (fun h1 => ?_)
 ·replace h1 := of_decide_eq_true h1
  refine jF <| jB <| jI <| jB <| kx [(7, (jN i)), (8, (.ref 2 0))] [(2, some (bx (jL (l.getD i y1))))] (zM <| zE (hZ uL i y1) <| zE (gH jO) <| zN (qS 2 qO qR) <| zM <| zT (qF jO) <| zZ) ?_
  refine kd [] [(1, some (bx (jL (jS (s + ((kH (l.getD i y1)) * (kH (m.getD i y1))))))))] mo (wR (kK jO) <| wR (kK jO) <| wM <| wM <| wE (hZ uL i y1) <| wE (gH jO) <| wE (kG (dL (l.getD i y1) (m.getD i y1) (kH (l.getD i y1)) (kH (m.getD i y1)) (jR (xI hl.1 (show i < l.length by omega)) (by decide)) (jR (xI hm.1 (show i < m.length by omega)) (by decide)))) <| wE (kG (f_add (jS s) (jS ((kH (l.getD i y1)) * (kH (m.getD i y1)))) s ((kH (l.getD i y1)) * (kH (m.getD i y1))) (jR (kM hql) (by decide)) (jR (kM (qQ (k := 135266376) (xI hl.1 (show i < l.length by omega)).ql (xI hm.1 (show i < m.length by omega)).ql (by decide))) (by decide)))) <| wT (qF jO) <| wZ) ?_
  refine kx [(18, (jN (i + 1)))] [] (zE (vJ (i + 1)) <| zM <| zZ) ?_
  exact ⟨(i + 1, s + (kH (l.getD i (jJ.mk (jE.mk false []) (jE.mk false [])))) * (kH (m.getD i (jJ.mk (jE.mk false []) (jE.mk false []))))), wk, ⟨by omega, by rw [hs]; rfl⟩, (by first | omega | (dsimp only; omega))⟩
 ·replace h1 := of_decide_eq_false h1
  refine kP <| jB <| kx [(5, (jN 0))] [(0, some (bx (jL (jS s))))] (zR (kK jO) <| zT (qF jO) <| zM <| zZ) ?_
  refine jH ⟨_, (qA (cs := (bx (jL (jS s)))) (d := (jL (jS s))) rfl rfl jO rfl rfl (.tmp (d := (.val (.int .i64 (0)))) rfl .nil)), ?_⟩
  obtain rfl : i = l.length := by omega
  rw [hs]; rfl
theorem m_app (m : List (List jJ)) (hm : nD 1048576 m) (v : List jJ) (hv : yI 1048576 v) (hc : ∀ r ∈ m, r.length = v.length) (hv4 : v.length ≤ 64) (hm6 : m.length ≤ 64) : jW Tryz.prog 213 [(.sl 24 1 (List.map jY m)), (.sl 45 4 (List.map jL v))] (.sl 45 4 (List.map jL (appR m v))) := by
 have hmb := hm.2
 have hvb := hv.2
 refine jM Tryz.func213 rfl cb213 rfl ?_
 show qJ _ _ _ _ ⟨[(0, (vl 24 1 jY m)), (1, (vl 45 4 jL v))], []⟩
 refine jB <| kx [] [] (zE (aK 45 4) <| zZ) ?_
 refine jB <| kx [(5, (.own 0 45 4 0))] [(0, some (qD jL []))] (zO 0 45 4 <| zZ) ?_
 refine jB <| jB <| kx [(8, (vl 24 1 jY m)), (9, (jN m.length)), (10, (jN 0))] [] (zM <| zE (zB dR) <| zM <| zZ) ?_
 refine jI <| kU (α := Nat × List jJ) (fun (i, o) => ⟨[(1, (vl 45 4 jL v)), (5, (.own 0 45 4 o.length)), (8, (vl 24 1 jY m)), (9, (jN m.length)), (10, (jN i))], [(0, some (qD jL o))]⟩) (fun (i, o) => i ≤ m.length ∧ o = (m.take i).map (fun r => jS (dotR r v))) (fun (i, o) => m.length - i) (0, []) wk ⟨Nat.zero_le _, by simp⟩ ?_
 rintro ⟨i, o⟩ ⟨hi, ho⟩
 have hol : o.length = i := by rw [ho, List.length_map, List.length_take]; omega
 refine jB <| kx [(11, (vb (decide (((i : Nat) : Int) < ((m.length : Nat) : Int)))))] [] (zE vW <| zZ) ?_
 refine jB <| jK rfl (fun h1 => ?_) (fun h1 => ?_)
 ·replace h1 := of_decide_eq_true h1
  have hcl := mcol_at hc (show i < m.length by omega)
  refine jF <| jB <| jI <| jB <| kx [(7, (vl 45 4 jL (m.getD i [])))] [] (zE (hZ dR i ([] : List (jJ))) <| zE (gK sh24) <| zM <| zZ) ?_
  refine kf [(5, (.own 0 45 4 ((o ++ [(jS (dotR (m.getD i []) v))]).length)))] [(0, some (qD jL (o ++ [(jS (dotR (m.getD i []) v))])))] (zM <| zM <| zM <| zE (kG (m_dot (m.getD i []) (xM (d := []) hm (show i < m.length by omega)) v hv (by omega) (by omega))) <| zE (nU uL qO qR) <| zAS jL o [(jS (dotR (m.getD i []) v))] rfl uL qO by45 <| zM <| zF) ?_
  refine kx [(10, (jN (i + 1)))] [] (zE (vJ (i + 1)) <| zM <| zZ) ?_
  exact ⟨(i + 1, o ++ [jS (dotR (m.getD i []) v)]), wk, ⟨by omega, by rw [ho]; exact appR_step (by omega)⟩, (by first | omega | (dsimp only; omega))⟩
 ·replace h1 := of_decide_eq_false h1
  refine kP <| jB <| kx [(4, (.own 0 45 4 o.length))] [] (zM <| zM <| zZ) ?_
  refine kA (xF (t := 4) (k := 0) (es := List.map jL o) rfl rfl (xK _ _ (fun _ => rfl)) (qZ _ _ rfl) (yF jL o (fun _ => rfl) rfl)) ?_
  refine jH ⟨_, (.tmp (d := (.sl 45 4 (List.map jL o))) rfl .nil), ?_⟩
  rw [ho, show i = m.length by omega, List.take_length]; rfl
end Go.Proofs.YtnajallgoaiahaaGreatDoor
namespace Go.Proofs.YtnajallgoaiahaaGreatDoor
open Go.Fid
set_option maxRecDepth 4000
set_option linter.unusedVariables false
set_option linter.unusedSimpArgs false
theorem cb75 : callB Tryz.prog 75 = true := by kernel_rfl
theorem cb131 : callB Tryz.prog 131 = true := by kernel_rfl
theorem cb211 : callB Tryz.prog 211 = true := by kernel_rfl
theorem cb212 : callB Tryz.prog 212 = true := by kernel_rfl
theorem m_apl1 (m : List (List jJ)) (hm : nD 1048576 m) (h0 : 0 < m.length) : jW Tryz.prog 212 [(.cptr 1000000 (jV.cells (.sl 24 1 (List.map jY m))) 0)] (.val (.int .i64 (((((m).getD 0 []).length : Nat) : Int)))) := by
 have hmb := hm.2
 have hrb := (xM (d := []) hm h0).2
 refine jM Tryz.func212 rfl cb212 rfl ?_
 show qJ _ _ _ _ ⟨[(0, (.d (.cptr 1000000 (jV.cells (.sl 24 1 (List.map jY m))) 0)))], []⟩
 refine jB <| kx [] [] (zM <| zZ) ?_
 refine jB <| kx [(1, (jN ((m.getD 0 []).length)))] [] (zE (gK sh34) <| zE (hZ dR 0 ([] : List (jJ))) <| zE (gK sh24) <| zE (zB uL (L := (m.getD 0 []))) <| zM <| zZ) ?_
 refine jH ⟨_, (.tmp (d := (.val (.int .i64 ((((m.getD 0 []).length : Nat) : Int))))) rfl .nil), ?_⟩
 rfl
theorem m_list (m : List (List jJ)) (hm : nD 1048576 m) (v : List jJ) (hv : yI 1048576 v) (q : List (List jJ)) (hq : nD 1048576 q) (hr : dU m m.length v.length) (hvv : cN v = true) (hq0 : (q.getD 0 []).length = v.length) (hqm : 0 < q.length) : jW Tryz.prog 211 [(.sl 24 1 (List.map jY m)), (.sl 45 4 (List.map jL v)), (.clo 212 [(.cptr 1000000 (jV.cells (.sl 24 1 (List.map jY q))) 0)])] (.val (.int .i64 (((0 : Nat) : Int)))) := by
 have hvb := hv.2
 have hc0 := rect_chk hr
 have hmb := hr.r64
 refine jM Tryz.func211 rfl cb211 rfl ?_
 show qJ _ _ _ _ ⟨[(0, (vl 24 1 jY m)), (1, (vl 45 4 jL v)), (2, (.d (.clo 212 [(.cptr 1000000 (jV.cells (.sl 24 1 (List.map jY q))) 0)])))], []⟩
 refine jB <| kx [] [] (zM <| zZ) ?_
 refine jB <| jB <| kx [(7, (jN (mchk m)))] [] (zM <| zE (kG (m_chk m hm)) <| zM <| zZ) ?_
 refine jB <| kx [(11, (vb false))] [] (zM <| zE (uX false oNe (by exact bne_eq_false_iff_eq.2 (by rw [show (mchk m) = 0 from hc0]; rfl))) <| zZ) ?_
 refine kO ?_
 refine jF <| jB <| jB <| kx [(15, (vb false))] [] (zM <| zE (uX true (kG (m_can v hv (by assumption))) (by exact hvv)) <| zE cE <| zZ) ?_
 refine kO ?_
 refine jF <| jB <| jB <| kx [(20, (vb false))] [] (zM <| zE (zB uL) <| zM <| zE (oCd (ds := []) (caps := [(.cptr 1000000 (jV.cells (.sl 24 1 (List.map jY q))) 0)]) (m_apl1 q hq hqm)) <| zE (uX false oNe (by exact bne_eq_false_iff_eq.2 (congrArg (fun z : Nat => (z : Int)) hq0.symm))) <| zZ) ?_
 refine kO ?_
 refine jF <| jB <| kx [(6, (jN 0))] [] (zM <| zZ) ?_
 refine jH ⟨_, (.tmp (d := (.val (.int .i64 (((0 : Nat) : Int))))) rfl .nil), ?_⟩
 rfl
theorem m_aply (m : List (List jJ)) (hm : nD 1048576 m) (v : List jJ) (hv : yI 1048576 v) (hr : dU m m.length v.length) (hvv : cN v = true) : jW Tryz.prog 131 [(.sl 24 1 (List.map jY m)), (.sl 45 4 (List.map jL v))] (.tup [(.sl 45 4 (List.map jL (appR m v))), (.val (.int .i64 (((0 : Nat) : Int))))]) := by
 have hvb := hv.2
 have hmb := hr.r64
 have hm1 := hr.r1
 have hv64 := hr.c64
 have hq0 := (hr.at (i := 0) hm1).1
 refine jM Tryz.func131 rfl cb131 rfl ?_
 show qJ _ _ _ _ ⟨[(0, (vl 24 1 jY m)), (1, (vl 45 4 jL v))], []⟩
 refine jB <| kx [(2, (.ref 0 0))] [(0, some (bx (.sl 24 1 (List.map jY m))))] (zN (uZ 0) <| zE (aK 45 4) <| zM <| zZ) ?_
 refine jB <| jB <| kx [(6, (jN 0))] [] (zR (uC sh34) <| zM <| zE (fP [0]) <| zC (oCg [(0, (jV.cells (.sl 24 1 (List.map jY m))))] [(vl 24 1 jY m), (vl 45 4 jL v), (.clo 212 [0])] (m_list m hm v hv m hm hr hvv (by assumption) (by omega)) (.d (.d (.c (css := [(jV.cells (.sl 24 1 (List.map jY m)))]) (.cons (.head _) .nil) .nil))) (.val _)) <| zM <| zZ) ?_
 refine jB <| kx [(12, (vb false))] [] (zM <| zE (uX false oNe) <| zZ) ?_
 refine kO ?_
 refine jF <| jB <| kx [(4, (vl 45 4 jL (appR m v))), (5, (jN 0))] [] (zR (uC sh34) <| zM <| zE (kG (m_app m hm v hv (fun r h => (hr.hc r h).1) (by omega) (by omega))) <| zM <| zM <| zZ) ?_
 refine jH ⟨_, (.tmp (d := (.sl 45 4 (List.map jL (appR m v)))) rfl (.tmp (d := (.val (.int .i64 (((0 : Nat) : Int))))) rfl .nil)), ?_⟩
 rfl
theorem m_cov (m : List (List jJ)) (hm : nD 1048576 m) (a : List jJ) (ha : yI 1048576 a) (v : List jJ) (hv : yI 1048576 v) (hr : dU m m.length v.length) (hvv : cN v = true) (hal : a.length = m.length) (hvl : v.length = m.length) : jW Tryz.prog 75 [(.sl 24 1 (List.map jY m)), (.sl 45 4 (List.map jL a)), (.sl 45 4 (List.map jL v))] (jL (jS (covR m a v))) := by
 have hab := ha.2
 have hvb := hv.2
 have hmb := hr.r64
 have hm1 := hr.r1
 have hv64 := hr.c64
 have hpl := appR_len m v
 refine jM Tryz.func75 rfl cb75 rfl ?_
 show qJ _ _ _ _ ⟨[(0, (vl 24 1 jY m)), (1, (vl 45 4 jL a)), (2, (vl 45 4 jL v))], []⟩
 refine jB <| kx [(6, (.ref 0 0))] [(0, some (bx (jL (jJ.mk (jE.mk false []) (jE.mk false [])))))] (zN (qS 0 qO qR) <| zZ) ?_
 refine jB <| kx [(7, (vl 45 4 jL (appR m v)))] [] (zM <| zM <| zE (kG (m_aply m hm v hv hr hvv)) <| zM <| zE vX <| zE vX <| zM <| zM <| zZ) ?_
 refine jB <| kx [(9, (.ref 1 0))] [(1, some (bx (jL (jS (dotR a (appR m v))))))] (zM <| zM <| zE (kG (m_Dot a ha (appR m v) (appR_ok hm hv (mcol_le (fun r h => (hr.hc r h).1) hr.c64)) (hal.trans hpl.symm) (by omega))) <| zM <| zE vX <| zE vX <| zN (qS 1 qO qR) <| zT (qF jO) <| zM <| zZ) ?_
 refine jB <| kx [] [(0, some (bx (jL (jS (dotR a (appR m v))))))] (zR (kK jO) <| zT (qF jO) <| zZ) ?_
 refine jH ⟨_, (qA (cs := (bx (jL (jS (dotR a (appR m v)))))) (d := (jL (jS (dotR a (appR m v))))) rfl rfl jO rfl rfl .nil), ?_⟩
 rfl
end Go.Proofs.YtnajallgoaiahaaGreatDoor
