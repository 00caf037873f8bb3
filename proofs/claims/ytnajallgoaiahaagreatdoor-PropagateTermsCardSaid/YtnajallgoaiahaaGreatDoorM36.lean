/- Part 36 of a proof: rules, plain facts, and functions walked. -/
import Derived.Test.YtnajallgoaiahaaGreatDoorM35
import Derived.Test.YtnajallgoaiahaaGreatDoorM20
import Derived.Test.YtnajallgoaiahaaGreatDoorM34
import Derived.Test.YtnajallgoaiahaaGreatDoorM28
namespace Go.Proofs.YtnajallgoaiahaaGreatDoor
open Go.Fid
set_option maxRecDepth 4000
set_option linter.unusedVariables false
set_option linter.unusedSimpArgs false
theorem cb32 : callB Tryz.prog 32 = true := by kernel_rfl
theorem cb88 : callB Tryz.prog 88 = true := by kernel_rfl
theorem i_ptC (p : Rat) (hp : QL p 200) : jT Tryz.prog 89 [(jH (jM p))] (.tup [(jQ (kR.mk (jM p) (jM p))), (.val (.int .i64 (((0 : Nat) : Int))))]) := by
 refine jJ Tryz.func89 rfl cb89 rfl ?_
 show qR _ _ _ _ ⟨[(0, (.d (jH (jM p))))], []⟩
 refine jB<|kx [(1, (.ref 0 0)), (2, (.ref 1 0))] [(0, some (bx (jH (jM p)))), (1, some (bx (jQ (kR.mk kW kW))))] (zN (xA 0)<|zN (uU 1 xY yC)<|zM<|zZ) ?_
 refine jB<|kx [(3, (vi 0))] [(1, some (bx (jQ (kR.mk (jM p) (jM p)))))] (zR (kP jO)<|zR (kP jO)<|zE (jZ (i_makeO (jM p) p (jP (jX hp) (by decide)) (jM p) p (jP (jX hp) (by decide)) (by rw [mK]; rfl) (Rat.le_refl (a := p))))<|zE vP<|zE vP<|zT (qM uA)<|zM<|zZ) ?_
 refine jE ⟨_, (kU (cs := (bx (jQ (kR.mk (jM p) (jM p))))) (d := (jQ (kR.mk (jM p) (jM p)))) rfl rfl uA rfl rfl (.tmp (d := (.val (.int .i64 (0)))) rfl .nil)), ?_⟩
 rfl
theorem p_of (n : Int) (hnl : -9223372036854775808 ≤ n) (hnh : n ≤ 9223372036854775807) (d : Int) (hdl : -9223372036854775808 ≤ d) (hdh : d ≤ 9223372036854775807) (hd : d ≠ 0) : jT Tryz.prog 88 [(.val (.int .i64 (n))), (.val (.int .i64 (d)))] (.tup [(jH (jM (Rat.divInt n d))), (.val (.int .i64 (0)))]) := by
 refine jJ Tryz.func88 rfl cb88 rfl ?_
 show qR _ _ _ _ ⟨[(0, (vi n)), (1, (vi d))], []⟩
 refine jB<|kx [(4, (.ref 0 0))] [(0, some (bx (jH kW)))] (zN (uU 0 qA qO)<|zM<|zZ) ?_
 refine jB<|kx [(5, (vi 0))] [(0, some (bx (jH (jM (Rat.divInt n d)))))] (zM<|zE (jZ (t_of n (by omega) (by omega)))<|zM<|zE (jZ (t_of d (by omega) (by omega)))<|zE (jZ (f_newO (kJ n) n (gU (iok_int (z := n) (by omega) (by omega)) (by decide)) (kJ d) d (gU (iok_int (z := d) (by omega) (by omega)) (by decide)) hd))<|zE vP<|zE vP<|zT (qM jO)<|zM<|zZ) ?_
 refine jE ⟨_, (kU (cs := (bx (jH (jM (Rat.divInt n d))))) (d := (jH (jM (Rat.divInt n d)))) rfl rfl jO rfl rfl (.tmp (d := (.val (.int .i64 (0)))) rfl .nil)), ?_⟩
 rfl
theorem p_ellO (m : List (List kD)) (hm : nD 6 m) (i : Nat) (j : Nat) (k : Nat) (hk : k ≤ 512) (hc : mchk m = 0) (hf : fitC m m.length = 0) (hi : i < m.length) (hj : j < m.length) (hij : i ≠ j) : jT Tryz.prog 32 [(.sl 24 1 (List.map jR m)), (.val (.int .i64 (((i : Nat) : Int)))), (.val (.int .i64 (((j : Nat) : Int)))), (.val (.int .i64 (((k : Nat) : Int))))] (.tup [(jQ (kR.mk (jM (((Rat.divInt 1 2) * ((qB ((m.getD i []).getD i kW)) + (qB ((m.getD j []).getD j kW)))) + (Rat.divInt (qC (gO (((((Rat.divInt 1 2) * ((qB ((m.getD i []).getD i kW)) - (qB ((m.getD j []).getD j kW)))) * ((Rat.divInt 1 2) * ((qB ((m.getD i []).getD i kW)) - (qB ((m.getD j []).getD j kW))))) + ((qB ((m.getD i []).getD j kW)) * (qB ((m.getD i []).getD j kW)))) * ((vD k) * (vD k))))) ((2 ^ k : Nat) : Int)))) (jM (((Rat.divInt 1 2) * ((qB ((m.getD i []).getD i kW)) + (qB ((m.getD j []).getD j kW)))) + (Rat.divInt (upI (((((Rat.divInt 1 2) * ((qB ((m.getD i []).getD i kW)) - (qB ((m.getD j []).getD j kW)))) * ((Rat.divInt 1 2) * ((qB ((m.getD i []).getD i kW)) - (qB ((m.getD j []).getD j kW))))) + ((qB ((m.getD i []).getD j kW)) * (qB ((m.getD i []).getD j kW)))) * ((vD k) * (vD k)))) ((2 ^ k : Nat) : Int)))))), (jQ (kR.mk (jM (((Rat.divInt 1 2) * ((qB ((m.getD i []).getD i kW)) + (qB ((m.getD j []).getD j kW)))) - (Rat.divInt (upI (((((Rat.divInt 1 2) * ((qB ((m.getD i []).getD i kW)) - (qB ((m.getD j []).getD j kW)))) * ((Rat.divInt 1 2) * ((qB ((m.getD i []).getD i kW)) - (qB ((m.getD j []).getD j kW))))) + ((qB ((m.getD i []).getD j kW)) * (qB ((m.getD i []).getD j kW)))) * ((vD k) * (vD k)))) ((2 ^ k : Nat) : Int)))) (jM (((Rat.divInt 1 2) * ((qB ((m.getD i []).getD i kW)) + (qB ((m.getD j []).getD j kW)))) - (Rat.divInt (qC (gO (((((Rat.divInt 1 2) * ((qB ((m.getD i []).getD i kW)) - (qB ((m.getD j []).getD j kW)))) * ((Rat.divInt 1 2) * ((qB ((m.getD i []).getD i kW)) - (qB ((m.getD j []).getD j kW))))) + ((qB ((m.getD i []).getD j kW)) * (qB ((m.getD i []).getD j kW)))) * ((vD k) * (vD k))))) ((2 ^ k : Nat) : Int)))))), (.val (.int .i64 (((0 : Nat) : Int))))]) := by
 have hmb := hm.2
 have hrc := mchk_rect hc
 have hf2 := fit_of hf
 have hri := (hrc.at hi).1
 have hrj := (hrc.at hj).1
 have hm64 := hrc.r64
 let y24 := kW
 let y23 := (qB ((m.getD i []).getD j y24))
 let y22 := (qB ((m.getD j []).getD j y24))
 let y21 := (qB ((m.getD i []).getD i y24))
 let y20 := (bx (jQ (kR.mk y24 y24)))
 let y19 := (y21 + y22)
 let y18 := (y23 * y23)
 let y17 := (y21 - y22)
 let y16 := ((Rat.divInt 1 2) * y19)
 let y15 := ((Rat.divInt 1 2) * y17)
 let y14 := (jM y16)
 let y13 := (jM y15)
 let y12 := (y15 * y15)
 let y11 := (y12 + y18)
 let y10 := (jM y11)
 let y9 := (y11 * ((vD k) * (vD k)))
 let y8 := (Rat.divInt (upI y9) ((2 ^ k : Nat) : Int))
 let y7 := (Rat.divInt (qC (gO y9)) ((2 ^ k : Nat) : Int))
 let y6 := (y16 - y8)
 let y5 := (y16 + y8)
 let y4 := (y16 - y7)
 let y3 := (y16 + y7)
 let y2 := (bx (jQ (kR.mk (jM y6) (jM y4))))
 let y1 := (bx (jQ (kR.mk (jM y3) (jM y5))))
 refine jJ Tryz.func32 rfl cb32 rfl ?_
 show qR _ _ _ _ ⟨[(0, (vl 24 1 jR m)), (1, (jN i)), (2, (jN j)), (3, (jN k))], []⟩
 refine jB<|kx [(8, (.ref 0 0)), (9, (.ref 1 0))] [(0, some y20), (1, some y20)] (zN (uU 0 xY yC)<|zN (uU 1 xY yC)<|zM<|zZ) ?_
 refine jB<|jB<|kx [(31, (vb false))] [] (zM<|zE (jZ (m_chk m (mat_up hm (by decide))))<|zE (xL false nR (by exact bne_eq_false_iff_eq.2 (by rw [show (mchk m) = 0 from hc] <;> rfl)))<|zZ) ?_
 refine kZ ?_
 refine jD<|jB<|kx [(11, (jN m.length))] [] (zM<|zE (vX eB)<|zM<|zZ) ?_
 refine jB<|jB<|kx [(12, (jN (fitC m m.length)))] [] (zM<|zM<|zE (jZ (p_fit m (mat_up hm (by decide)) m.length (by assumption)))<|zM<|zZ) ?_
 refine jB<|kx [(40, (vb false))] [] (zM<|zE (xL false nR (by exact bne_eq_false_iff_eq.2 (by rw [show (fitC m m.length) = 0 from hf] <;> rfl)))<|zZ) ?_
 refine kZ ?_
 refine jD<|jB<|jB<|kx [(72, (vb false))] [] (zM<|zE (xL false vZ (by exact decide_eq_false (show ¬ ((i : Nat) : Int) < 0 by omega)))<|zM<|zM<|zM<|zE (xL false oGe (by exact decide_eq_false (show ¬ ((m.length : Nat) : Int) ≤ ((i : Nat) : Int) by omega)))<|zE yM<|zM<|zM<|zE (xL false vZ (by exact decide_eq_false (show ¬ ((j : Nat) : Int) < 0 by omega)))<|zE yM<|zM<|zM<|zM<|zE (xL false oGe (by exact decide_eq_false (show ¬ ((m.length : Nat) : Int) ≤ ((j : Nat) : Int) by omega)))<|zE yM<|zM<|zM<|zM<|zE (xL false gA (by exact beq_eq_false_iff_ne.2 (show ((i : Nat) : Int) ≠ ((j : Nat) : Int) by omega)))<|zE yM<|zM<|zM<|zE (xL false vZ (by exact decide_eq_false (show ¬ ((k : Nat) : Int) < 0 by omega)))<|zE yM<|zM<|zM<|zE (xL false mO (by exact decide_eq_false (show ¬ 512 < ((k : Nat) : Int) by omega)))<|zE yM<|zZ) ?_
 refine kZ ?_
 refine jD<|jB ?_
 have bn1 : QL (Rat.divInt 1 2) 3 := (zB (n := 3) (nF (by omega) (by omega)) (nF (by omega) (by omega)) (by decide))
 refine kx [(13, (.ref 2 0))] [(2, some (bx (jH (jM (Rat.divInt 1 2)))))] (zE (jZ (p_of ((1 : Nat) : Int) (by omega) (by omega) ((2 : Nat) : Int) (by omega) (by omega) (by decide)))<|zM<|zE vP<|zE vP<|zN (uU 2 qA qO)<|zT (qM jO)<|zM<|zZ) ?_
 refine jB<|kd [(15, (.ref 3 0)), (16, (.ref 4 0)), (17, (.ref 5 0))] [(3, some (bx (jH ((m.getD i []).getD i y24)))), (4, some (bx (jH ((m.getD i []).getD j y24)))), (5, some (bx (jH ((m.getD j []).getD j y24))))] mo (wM<|wM<|wE (zU eB i ([] : List (kD)))<|wE (xI sh24)<|wM<|wE (zU qN i y24 (L := (m.getD i [])))<|wE (dM jO)<|wM<|wM<|wE (zU eB i ([] : List (kD)))<|wE (xI sh24)<|wM<|wE (zU qN j y24 (L := (m.getD i [])))<|wE (dM jO)<|wM<|wM<|wE (zU eB j ([] : List (kD)))<|wE (xI sh24)<|wM<|wE (zU qN j y24 (L := (m.getD j [])))<|wE (dM jO)<|wN (uU 3 qA qO)<|wN (uU 4 qA qO)<|wN (uU 5 qA qO)<|wT (qM jO)<|wT (qM jO)<|wT (qM jO)<|wZ) ?_
 refine jB ?_
 have bn2 : QL y17 13 := (dS (k := 13) (xS (xT (d := []) hm (show i < m.length by omega)).1 (show i < (m.getD i []).length by omega)).ql (xS (xT (d := []) hm (show j < m.length by omega)).1 (show j < (m.getD j []).length by omega)).ql (by decide))
 refine kd [(18, (.ref 6 0))] [(6, some (bx (jH y13)))] mo (wR (kP jO)<|wR (kP jO)<|wR (kP jO)<|wE (jZ (f_sub ((m.getD i []).getD i y24) ((m.getD j []).getD j y24) y21 y22 (jP (xS (xT (d := []) hm (show i < m.length by omega)).1 (show i < (m.getD i []).length by omega)) (by decide)) (jP (xS (xT (d := []) hm (show j < m.length by omega)).1 (show j < (m.getD j []).length by omega)) (by decide))))<|wE (jZ (fV (jM (Rat.divInt 1 2)) (jM y17) (Rat.divInt 1 2) y17 (jP (jX bn1) (by decide)) (jP (jX bn2) (by decide))))<|wN (uU 6 qA qO)<|wT (qM jO)<|wZ) ?_
 refine jB ?_
 have bn3 : QL y12 32 := (qF (k := 32) (qF (k := 16) bn1 bn2 (by decide)) (qF (k := 16) bn1 bn2 (by decide)) (by decide))
 have bn4 : QL y18 12 := (qF (k := 12) (xS (xT (d := []) hm (show i < m.length by omega)).1 (show j < (m.getD i []).length by omega)).ql (xS (xT (d := []) hm (show i < m.length by omega)).1 (show j < (m.getD i []).length by omega)).ql (by decide))
 refine kd [(19, (.ref 7 0))] [(7, some (bx (jQ (kR.mk y10 y10))))] mo (wR (kP jO)<|wR (kP jO)<|wE (jZ (fV y13 y13 y15 y15 (jP (jX (qF (k := 16) bn1 bn2 (by decide))) (by decide)) (jP (jX (qF (k := 16) bn1 bn2 (by decide))) (by decide))))<|wR (kP jO)<|wR (kP jO)<|wE (jZ (fV ((m.getD i []).getD j y24) ((m.getD i []).getD j y24) y23 y23 (jP (xS (xT (d := []) hm (show i < m.length by omega)).1 (show j < (m.getD i []).length by omega)) (by decide)) (jP (xS (xT (d := []) hm (show i < m.length by omega)).1 (show j < (m.getD i []).length by omega)) (by decide))))<|wE (jZ (f_add (jM y12) (jM y18) y12 y18 (jP (jX bn3) (by decide)) (jP (jX bn4) (by decide))))<|wE (jZ (i_ptC y11 (xQ (nS (k := 45) bn3 bn4 (by decide)) (by decide))))<|wM<|wE vP<|wE vP<|wN (uU 7 xY yC)<|wT (qM uA)<|wM<|wZ) ?_
 refine jB ?_
 have bn5 : QL y7 86 := (zB (n := 86) (Nat.le_trans (yP.ln (iok_root (fl_nn (aH (sq2_nn y15 y23))) (aD (k := 86) (qF (k := 85) (nS (k := 45) bn3 bn4 (by decide)) (qF (k := 40) (dQ (k := k) (by omega)) (dQ (k := k) (by omega)) (by decide)) (by decide)) (by decide)))) (by decide)) (Nat.le_trans (yP.ln (mQ (k := k) (by omega))) (by decide)) (by decide))
 have bn6 : QL y8 87 := (zB (n := 87) (Nat.le_trans (yP.ln (iok_upI (k := 87) (fl_nn (aH (Rat.le_trans (sq2_nn y15 y23) Rat.le_refl))) (aD (k := 86) (qF (k := 85) (nS (k := 45) bn3 bn4 (by decide)) (qF (k := 40) (dQ (k := k) (by omega)) (dQ (k := k) (by omega)) (by decide)) (by decide)) (by decide)) (by decide) (by decide))) (by decide)) (Nat.le_trans (yP.ln (mQ (k := k) (by omega))) (by decide)) (by decide))
 refine kx [(21, (.ref 8 0))] [(8, some (bx (jQ (kR.mk (jM y7) (jM y8)))))] (zR (kP uA)<|zM<|zE (jZ (di_root y11 y11 (xQ (nS (k := 45) bn3 bn4 (by decide)) (by decide)) (xQ (nS (k := 45) bn3 bn4 (by decide)) (by decide)) Rat.le_refl k (by omega) (sq2_nn y15 y23)))<|zM<|zE vP<|zE vP<|zN (uU 8 xY yC)<|zT (qM uA)<|zM<|zZ) ?_
 refine jB ?_
 have bn7 : QL y19 13 := (nS (k := 13) (xS (xT (d := []) hm (show i < m.length by omega)).1 (show i < (m.getD i []).length by omega)).ql (xS (xT (d := []) hm (show j < m.length by omega)).1 (show j < (m.getD j []).length by omega)).ql (by decide))
 refine kd [(23, (.ref 9 0))] [(9, some (bx (jQ (kR.mk y14 y14))))] mo (wR (kP jO)<|wR (kP jO)<|wR (kP jO)<|wE (jZ (f_add ((m.getD i []).getD i y24) ((m.getD j []).getD j y24) y21 y22 (jP (xS (xT (d := []) hm (show i < m.length by omega)).1 (show i < (m.getD i []).length by omega)) (by decide)) (jP (xS (xT (d := []) hm (show j < m.length by omega)).1 (show j < (m.getD j []).length by omega)) (by decide))))<|wE (jZ (fV (jM (Rat.divInt 1 2)) (jM y19) (Rat.divInt 1 2) y19 (jP (jX bn1) (by decide)) (jP (jX bn7) (by decide))))<|wE (jZ (i_ptC y16 (xQ (qF (k := 16) bn1 bn7 (by decide)) (by decide))))<|wM<|wE vP<|wE vP<|wN (uU 9 xY yC)<|wT (qM uA)<|wM<|wZ) ?_
 refine jB ?_
 have bn8 : QL y3 104 := (nS (k := 104) (qF (k := 16) bn1 bn7 (by decide)) bn5 (by decide))
 have bn9 : QL y5 104 := (nS (k := 104) (qF (k := 16) bn1 bn7 (by decide)) bn6 (by decide))
 refine kx [(25, (.ref 10 0))] [(10, some y1)] (zR (kP uA)<|zR (kP uA)<|zE (jZ (i_add y16 y16 y7 y8 (xQ (qF (k := 16) bn1 bn7 (by decide)) (by decide)) (xQ (qF (k := 16) bn1 bn7 (by decide)) (by decide)) (qu bn5) (qu bn6) Rat.le_refl (rt_valid k (sq2_nn y15 y23) Rat.le_refl)))<|zM<|zE vP<|zE vP<|zN (uU 10 xY yC)<|zT (qM uA)<|zM<|zZ) ?_
 refine jB ?_
 have bn10 : QL y6 104 := (dS (k := 104) (qF (k := 16) bn1 bn7 (by decide)) bn6 (by decide))
 have bn11 : QL y4 104 := (dS (k := 104) (qF (k := 16) bn1 bn7 (by decide)) bn5 (by decide))
 refine kx [(27, (.ref 11 0))] [(11, some y2)] (zR (kP uA)<|zR (kP uA)<|zE (jZ (i_sub y16 y16 y7 y8 (xQ (qF (k := 16) bn1 bn7 (by decide)) (by decide)) (xQ (qF (k := 16) bn1 bn7 (by decide)) (by decide)) (qu bn5) (qu bn6) Rat.le_refl (rt_valid k (sq2_nn y15 y23) Rat.le_refl)))<|zM<|zE vP<|zE vP<|zN (uU 11 xY yC)<|zT (qM uA)<|zM<|zZ) ?_
 refine jB<|kH (wk (l := [(8, (.ref 0 0)), (9, (.ref 1 0)), (25, (.ref 10 0)), (27, (.ref 11 0))]) (b := [(0, some y20), (1, some y20), (10, some y1), (11, some y2)])) ?_
 refine kd [(10, (jN 0))] [(0, some y1), (1, some y2)] mo (wR (kP uA)<|wR (kP uA)<|wT (qM uA)<|wT (qM uA)<|wM<|wZ) ?_
 refine jE ⟨_, (kU (cs := (bx (jQ (kR.mk (jM (((Rat.divInt 1 2) * ((qB ((m.getD i []).getD i kW)) + (qB ((m.getD j []).getD j kW)))) + (Rat.divInt (qC (gO (((((Rat.divInt 1 2) * ((qB ((m.getD i []).getD i kW)) - (qB ((m.getD j []).getD j kW)))) * ((Rat.divInt 1 2) * ((qB ((m.getD i []).getD i kW)) - (qB ((m.getD j []).getD j kW))))) + ((qB ((m.getD i []).getD j kW)) * (qB ((m.getD i []).getD j kW)))) * ((vD k) * (vD k))))) ((2 ^ k : Nat) : Int)))) (jM (((Rat.divInt 1 2) * ((qB ((m.getD i []).getD i kW)) + (qB ((m.getD j []).getD j kW)))) + (Rat.divInt (upI (((((Rat.divInt 1 2) * ((qB ((m.getD i []).getD i kW)) - (qB ((m.getD j []).getD j kW)))) * ((Rat.divInt 1 2) * ((qB ((m.getD i []).getD i kW)) - (qB ((m.getD j []).getD j kW))))) + ((qB ((m.getD i []).getD j kW)) * (qB ((m.getD i []).getD j kW)))) * ((vD k) * (vD k)))) ((2 ^ k : Nat) : Int)))))))) (d := (jQ (kR.mk (jM (((Rat.divInt 1 2) * ((qB ((m.getD i []).getD i kW)) + (qB ((m.getD j []).getD j kW)))) + (Rat.divInt (qC (gO (((((Rat.divInt 1 2) * ((qB ((m.getD i []).getD i kW)) - (qB ((m.getD j []).getD j kW)))) * ((Rat.divInt 1 2) * ((qB ((m.getD i []).getD i kW)) - (qB ((m.getD j []).getD j kW))))) + ((qB ((m.getD i []).getD j kW)) * (qB ((m.getD i []).getD j kW)))) * ((vD k) * (vD k))))) ((2 ^ k : Nat) : Int)))) (jM (((Rat.divInt 1 2) * ((qB ((m.getD i []).getD i kW)) + (qB ((m.getD j []).getD j kW)))) + (Rat.divInt (upI (((((Rat.divInt 1 2) * ((qB ((m.getD i []).getD i kW)) - (qB ((m.getD j []).getD j kW)))) * ((Rat.divInt 1 2) * ((qB ((m.getD i []).getD i kW)) - (qB ((m.getD j []).getD j kW))))) + ((qB ((m.getD i []).getD j kW)) * (qB ((m.getD i []).getD j kW)))) * ((vD k) * (vD k)))) ((2 ^ k : Nat) : Int))))))) rfl rfl uA rfl rfl (kU (cs := (bx (jQ (kR.mk (jM (((Rat.divInt 1 2) * ((qB ((m.getD i []).getD i kW)) + (qB ((m.getD j []).getD j kW)))) - (Rat.divInt (upI (((((Rat.divInt 1 2) * ((qB ((m.getD i []).getD i kW)) - (qB ((m.getD j []).getD j kW)))) * ((Rat.divInt 1 2) * ((qB ((m.getD i []).getD i kW)) - (qB ((m.getD j []).getD j kW))))) + ((qB ((m.getD i []).getD j kW)) * (qB ((m.getD i []).getD j kW)))) * ((vD k) * (vD k)))) ((2 ^ k : Nat) : Int)))) (jM (((Rat.divInt 1 2) * ((qB ((m.getD i []).getD i kW)) + (qB ((m.getD j []).getD j kW)))) - (Rat.divInt (qC (gO (((((Rat.divInt 1 2) * ((qB ((m.getD i []).getD i kW)) - (qB ((m.getD j []).getD j kW)))) * ((Rat.divInt 1 2) * ((qB ((m.getD i []).getD i kW)) - (qB ((m.getD j []).getD j kW))))) + ((qB ((m.getD i []).getD j kW)) * (qB ((m.getD i []).getD j kW)))) * ((vD k) * (vD k))))) ((2 ^ k : Nat) : Int)))))))) (d := (jQ (kR.mk (jM (((Rat.divInt 1 2) * ((qB ((m.getD i []).getD i kW)) + (qB ((m.getD j []).getD j kW)))) - (Rat.divInt (upI (((((Rat.divInt 1 2) * ((qB ((m.getD i []).getD i kW)) - (qB ((m.getD j []).getD j kW)))) * ((Rat.divInt 1 2) * ((qB ((m.getD i []).getD i kW)) - (qB ((m.getD j []).getD j kW))))) + ((qB ((m.getD i []).getD j kW)) * (qB ((m.getD i []).getD j kW)))) * ((vD k) * (vD k)))) ((2 ^ k : Nat) : Int)))) (jM (((Rat.divInt 1 2) * ((qB ((m.getD i []).getD i kW)) + (qB ((m.getD j []).getD j kW)))) - (Rat.divInt (qC (gO (((((Rat.divInt 1 2) * ((qB ((m.getD i []).getD i kW)) - (qB ((m.getD j []).getD j kW)))) * ((Rat.divInt 1 2) * ((qB ((m.getD i []).getD i kW)) - (qB ((m.getD j []).getD j kW))))) + ((qB ((m.getD i []).getD j kW)) * (qB ((m.getD i []).getD j kW)))) * ((vD k) * (vD k))))) ((2 ^ k : Nat) : Int))))))) rfl rfl uA rfl rfl (.tmp (d := (.val (.int .i64 (((0 : Nat) : Int))))) rfl .nil))), ?_⟩
 rfl
def zQ (zs : List Int) : List Rat := zs.map fun z : Int => (z : Rat)
theorem zQ_ql {zs : List Int} (h : ∀ z ∈ zs, -9223372036854775808 ≤ z ∧ z ≤ 9223372036854775807) : ∀ q ∈ zQ zs, QL q 3 := fun q hq => by
  obtain ⟨z, hz, rfl⟩ := List.mem_map.1 hq
  exact gD (nF (h z hz).1 (h z hz).2) (by decide)
theorem zQ_row {zs : List Int} {n : Nat} (h : ∀ z ∈ zs, -9223372036854775808 ≤ z ∧ z ≤ 9223372036854775807) (hn : 3 ≤ n) (hl : zs.length ≤ 1000000) : yR n (List.map jM (zQ zs)) := pts_row (fun q hq => xQ (zQ_ql h q hq) hn) (by unfold zQ; rw [List.length_map]; exact hl)
def kT : List kK := [⟨1, 0, 0, zr⟩, ⟨1, 1, 0, zr⟩, ⟨4, 0, 1, zr⟩]
def kX : List Rat := zQ [2, 3]
def kQ : List (List kD) := [List.map jM (zQ [1, 0]), List.map jM (zQ [0, 4])]
def kE : List (List kD) := [List.map jM (zQ [5, 4]), List.map jM (zQ [4, 5])]
theorem kX_ql : ∀ q ∈ kX, QL q 1048576 := fun q hq => xQ (zQ_ql (by decide) q hq) (by decide)
theorem kT_ok : ∀ x ∈ kT, mF x.n (qB x.n) 1048576 := fun x hx => by
  have : x.n = zr := by
    unfold kT at hx
    simp only [List.mem_cons, List.not_mem_nil, or_false] at hx
    rcases hx with rfl | rfl | rfl <;> rfl
  rw [this]
  exact ⟨rfl, by decide, by decide, by decide⟩
theorem kQ_ok : nD 1048576 kQ := ⟨fun r hr => by
  unfold kQ at hr
  simp only [List.mem_cons, List.not_mem_nil, or_false] at hr
  rcases hr with rfl | rfl <;> exact zQ_row (by decide) (by decide) (by decide), by decide⟩
theorem kE_ok : nD 6 kE := ⟨fun r hr => by
  unfold kE at hr
  simp only [List.mem_cons, List.not_mem_nil, or_false] at hr
  rcases hr with rfl | rfl <;> exact zQ_row (by decide) (by decide) (by decide), by decide⟩
theorem vrow_of (l : List Rat) : bO (List.map jM l) = true := by
  unfold bO
  rw [List.all_eq_true]
  intro a ha
  obtain ⟨r, h1, rfl⟩ := List.mem_map.1 ha
  exact mK _
theorem kQ_rect : dP kQ kQ.length kX.length := ⟨rfl, fun l hl => by
  unfold kQ at hl
  simp only [List.mem_cons, List.not_mem_nil, or_false] at hl
  rcases hl with rfl | rfl <;> exact ⟨rfl, vrow_of _⟩, by decide, by decide, by decide, by decide⟩
theorem kE_rect : dP kE 2 2 := ⟨rfl, fun l hl => by
  unfold kE at hl
  simp only [List.mem_cons, List.not_mem_nil, or_false] at hl
  rcases hl with rfl | rfl <;> exact ⟨rfl, vrow_of _⟩, by decide, by decide, by decide, by decide⟩
theorem kE_chk : mchk kE = 0 := rect_chk kE_rect
theorem eqm2 {a b c d : Rat} (h : b = c) : symB [[jM a, jM b], [jM c, jM d]] = true := by
  refine sym_yes fun i hi j hj => ?_
  match i, j, hi, hj with
  | 1, 0, _, _ => exact decide_eq_true (by subst h; rfl)
theorem kQ_fit : fitC kQ kX.length = 0 := fit_ok ⟨rfl, rfl⟩ (eqm2 rfl)
theorem kE_fit : fitC kE kE.length = 0 := fit_ok ⟨rfl, rfl⟩ (eqm2 rfl)
instance (n : Nat) (a : R2) : Decidable (GL n a) := by unfold GL QL; infer_instance
theorem kT_run : JRun (List.map dX kX) kT := by
  refine ⟨by decide +kernel, fun k hk => ?_, fun k hk => ?_⟩
  · match k, hk with
    | 0, _ => exact ⟨by decide +kernel, by decide +kernel, rfl⟩
    | 1, _ => exact ⟨by decide +kernel, by decide +kernel, rfl⟩
    | 2, _ => exact ⟨by decide +kernel, by decide +kernel, rfl⟩
  · match k, hk with
    | 0, _ => intro h; revert h; decide
    | 1, _ => intro h; revert h; decide
    | 2, _ => intro h; revert h; decide
theorem kGr : gF kX kT = [jM 3, jM 2] := by
  unfold gF
  rw [show (gX (List.map dX kX) kT).g = [(3, 3), (2, 2)] by decide +kernel]
  rfl
theorem kVar : covR kQ (gF kX kT) (gF kX kT) = 25 := by
  rw [kGr]
  show 0 + qB (jM 3) * qB (jM (0 + qB (jM 1) * qB (jM 3) + qB (jM 0) * qB (jM 2))) + qB (jM 2) * qB (jM (0 + qB (jM 0) * qB (jM 3) + qB (jM 4) * qB (jM 2))) = 25
  simp only [mC]
  decide +kernel
theorem kEa : qB ((kE.getD 0 []).getD 0 kW) = 5 := by
  show qB (jM ((5 : Int) : Rat)) = 5
  rw [mC]; rfl
theorem kEb : qB ((kE.getD 1 []).getD 1 kW) = 5 := by
  show qB (jM ((5 : Int) : Rat)) = 5
  rw [mC]; rfl
theorem kEc : qB ((kE.getD 0 []).getD 1 kW) = 4 := by
  show qB (jM ((4 : Int) : Rat)) = 4
  rw [mC]; rfl
theorem zs_at {zs : List Int} (h : ∀ z ∈ zs, -9223372036854775808 ≤ z ∧ z ≤ 9223372036854775807) {i : Nat} (hi : i < zs.length) : -9223372036854775808 ≤ zs.getD i 0 ∧ zs.getD i 0 ≤ 9223372036854775807 := by
  rw [List.getD_eq_getElem?_getD, List.getElem?_eq_getElem hi]; exact h _ (List.getElem_mem _)
theorem rng2 {a b c d : Rat} (h1 : a = c) (h2 : b = d) : kR.mk (jM a) (jM b) = kR.mk (jM c) (jM d) := by rw [h1, h2]
theorem cb11 : callB Tryz.prog 11 = true := by kernel_rfl
theorem cb65 : callB Tryz.prog 65 = true := by kernel_rfl
theorem p_whole (zs : List Int) (hz : ∀ z ∈ zs, -9223372036854775808 ≤ z ∧ z ≤ 9223372036854775807) (hzl : zs.length ≤ 1000000) : jT Tryz.prog 65 [(.sl 3 1 (List.map jI zs))] (.sl 45 4 (List.map jH (List.map jM (zQ zs)))) := by
 refine jJ Tryz.func65 rfl cb65 rfl ?_
 show qR _ _ _ _ ⟨[(0, (vl 3 1 jI zs))], []⟩
 refine jB<|kx [] [] (zE (mP 45 4)<|zZ) ?_
 refine jB<|kx [(3, (.own 0 45 4 0))] [(0, some (qQ jH []))] (zN (oBo 0 qN qA qO)<|zM<|zZ) ?_
 refine jB<|jB<|kx [(7, (vl 3 1 jI zs)), (8, (jN zs.length)), (9, (jN 0))] [] (zM<|zE (vX qP)<|zM<|zZ) ?_
 refine jG<|kI (α := Nat × List kD) (fun (i, o) => ⟨[(3, (.own 0 45 4 o.length)), (7, (vl 3 1 jI zs)), (8, (jN zs.length)), (9, (jN i))], [(0, some (qQ jH o))]⟩) (fun (i, o) => i ≤ zs.length ∧ o = (zs.take i).map (fun z : Int => jM (z : Rat))) (fun (i, o) => zs.length - i) (0, []) wk ⟨Nat.zero_le _, by simp⟩ ?_
 rintro ⟨i, o⟩ ⟨hi, ho⟩
 have hol : o.length = i := by rw [ho, List.length_map, List.length_take]; omega
 refine jB<|kx [(10, (vb (decide (((i : Nat) : Int) < ((zs.length : Nat) : Int)))))] [] (zE vZ<|zZ) ?_
 refine jB<|jF rfl (fun h1 => ?_) (fun h1 => ?_)
 ·replace h1 := uH h1
  have hzi := zs_at hz (show i < zs.length by omega)
  refine jD<|jB<|jG<|jB<|kx [(5, (vi (zs.getD i 0)))] [] (zE (zU qP i (0 : Int))<|zE (xI yV)<|zM<|zZ) ?_
  refine kf [(3, (.own 0 45 4 ((o ++ [(jM ((zs.getD i 0 : Int) : Rat))]).length)))] [(0, some (qQ jH (o ++ [(jM ((zs.getD i 0 : Int) : Rat))])))] (zM<|zM<|zE (jZ (zV (zs.getD i 0) (by omega) (by omega)))<|zE (gN qN qA qO)<|zAS jH o [(jM ((zs.getD i 0 : Int) : Rat))] rfl qN qA fF<|zM<|zF) ?_
  refine kx [(9, (jN (i + 1)))] [] (zE (vG (i + 1))<|zM<|zZ) ?_
  exact ⟨(i + 1, o ++ [jM ((zs.getD i 0 : Int) : Rat)]), wk, ⟨by omega, by rw [ho]; exact bC (f := fun z : Int => jM (z : Rat)) (by omega)⟩, (by first|omega|(dsimp only;omega))⟩
 ·replace h1 := vB h1
  refine kC<|jB<|kx [(2, (.own 0 45 4 o.length))] [] (zM<|zM<|zZ) ?_
  refine kH (vK (t := 2) (k := 0) (es := List.map jH o) rfl rfl (zI _ _ (fun _ => rfl)) (uG _ _ rfl) (yW jH o (fun _ => rfl) rfl)) ?_
  refine jE ⟨_, (.tmp (d := (.sl 45 4 (List.map jH o))) rfl .nil), ?_⟩
  rw [ho, show i = zs.length by omega, List.take_length, show List.map (fun z : Int => jM (z : Rat)) zs = List.map jM (zQ zs) from (by unfold zQ; rw [List.map_map]; rfl)]; rfl
theorem kT_runP : JRunP (List.map dX kX) kT := ⟨kT_run, fun k hk => by
 have hbx := pts_gl kX_ql
 have hup := kT_run.upto (k := k) (by omega)
 match k, hk with
 | 0, _ => exact takesS_ren 12 18 (e_stepV 0 (List.map dX kX) hbx 2 (jU (List.map dX kX) kT 0) (by decide) (by decide) (by decide) (by decide)) (hB12 _ _ _ rfl) rfl (by kernel_rfl)
 | 1, _ => exact takesS_ren 12 18 (e_stepV 1 (List.map dX kX) hbx 2 (jU (List.map dX kX) kT 1) (by decide) (by decide) (by decide) (by decide)) (hB12 _ _ _ rfl) rfl (by kernel_rfl)
 | 2, _ => exact takesS_ren 12 18 (e_stepM 0 1 (List.map uR (List.map dX kX)) 2 (jU (List.map dX kX) kT 2) (by decide) (by decide) hup (by decide) (by decide)) (hB12 _ _ _ rfl) rfl (by kernel_rfl)⟩
theorem p_known  : jT Tryz.prog 11 [] (.val (.bool (true))) := by
 let y4 := kW
 let y3 := (kR.mk (jM ((1 : Int) : Rat)) (jM ((1 : Int) : Rat)))
 let y2 := (kR.mk (jM ((9 : Int) : Rat)) (jM ((9 : Int) : Rat)))
 let y1 := [(kK.mk ((1 : Nat) : Int) 0 0 y4), (kK.mk ((1 : Nat) : Int) ((1 : Nat) : Int) 0 y4), (kK.mk ((4 : Nat) : Int) 0 ((1 : Nat) : Int) y4)]
 refine jJ Tryz.func11 rfl cb11 rfl ?_
 show qR _ _ _ _ ⟨[], []⟩
 refine jB<|kx [] [] (zM<|zZ) ?_
 refine jB<|kx [(1, (vl 83 7 jS y1))] [] (zE (bS pl83 ze83 zo83)<|zE (bS pl83 ze83 zo83)<|zE (bS pl83 ze83 zo83)<|zE (gN aF ze83 zo83)<|zM<|zZ) ?_
 refine jB<|kx [(2, (.ref 0 0)), (3, (jN 0))] [(0, some (bx (jH (jM ((25 : Int) : Rat)))))] (zE (oQd (.sl 83 7 (List.map jS y1)) (.sl 83 7 (List.map jS kT)) (oV (vl 83 7 jS y1) (qH (by kernel_rfl))) (by exact rfl))<|zE (gN qP ze3 zo3)<|zE (oQd (.sl 45 4 (List.map jH (List.map jM (zQ [((2 : Nat) : Int), ((3 : Nat) : Int)])))) (.sl 45 4 (List.map jH (List.map jM kX))) (jZ (p_whole [((2 : Nat) : Int), ((3 : Nat) : Int)] (by decide) (by decide))) (by exact rfl))<|zE (gN qP ze3 zo3)<|zE (jZ (p_whole [((1 : Nat) : Int), ((0 : Nat) : Int)] (by decide) (by decide)))<|zE (gN qP ze3 zo3)<|zE (jZ (p_whole [((0 : Nat) : Int), ((4 : Nat) : Int)] (by decide) (by decide)))<|zE (oQd (.sl 24 1 (List.map jR [(List.map jM (zQ [((1 : Nat) : Int), ((0 : Nat) : Int)])), (List.map jM (zQ [((0 : Nat) : Int), ((4 : Nat) : Int)]))])) (.sl 24 1 (List.map jR kQ)) (gN eB ze24 zo24) (by exact rfl))<|zE (jZ (p_var kT kT_ok kX kX_ql kQ kQ_ok kT_runP kQ_rect kQ_fit rfl))<|zM<|zE (oQd (jH (jM (covR kQ (gF kX kT) (gF kX kT)))) (jH (jM ((25 : Int) : Rat))) vP (by exact (by rw [kVar]; rfl)))<|zE vP<|zN (uU 0 qA qO)<|zT (qM jO)<|zM<|zZ) ?_
 refine jB<|kx [(4, (.ref 1 0)), (5, (.ref 2 0)), (6, (jN 0))] [(1, some (bx (jQ y2))), (2, some (bx (jQ y3)))] (zE (gN qP ze3 zo3)<|zE (jZ (p_whole [((5 : Nat) : Int), ((4 : Nat) : Int)] (by decide) (by decide)))<|zE (gN qP ze3 zo3)<|zE (jZ (p_whole [((4 : Nat) : Int), ((5 : Nat) : Int)] (by decide) (by decide)))<|zE (oQd (.sl 24 1 (List.map jR [(List.map jM (zQ [((5 : Nat) : Int), ((4 : Nat) : Int)])), (List.map jM (zQ [((4 : Nat) : Int), ((5 : Nat) : Int)]))])) (.sl 24 1 (List.map jR kE)) (gN eB ze24 zo24) (by exact rfl))<|zE (jZ (p_ellO kE kE_ok 0 1 3 (by omega) kE_chk kE_fit (by decide) (by decide) (by omega)))<|zM<|zE (oQd (jQ (kR.mk (jM (((Rat.divInt 1 2) * ((qB ((kE.getD 0 []).getD 0 y4)) + (qB ((kE.getD 1 []).getD 1 y4)))) + (Rat.divInt (qC (gO (((((Rat.divInt 1 2) * ((qB ((kE.getD 0 []).getD 0 y4)) - (qB ((kE.getD 1 []).getD 1 y4)))) * ((Rat.divInt 1 2) * ((qB ((kE.getD 0 []).getD 0 y4)) - (qB ((kE.getD 1 []).getD 1 y4))))) + ((qB ((kE.getD 0 []).getD 1 y4)) * (qB ((kE.getD 0 []).getD 1 y4)))) * (((((2 ^ 3 : Nat) : Int) : Int) : Rat) * ((((2 ^ 3 : Nat) : Int) : Int) : Rat))))) ((2 ^ 3 : Nat) : Int)))) (jM (((Rat.divInt 1 2) * ((qB ((kE.getD 0 []).getD 0 y4)) + (qB ((kE.getD 1 []).getD 1 y4)))) + (Rat.divInt (upI (((((Rat.divInt 1 2) * ((qB ((kE.getD 0 []).getD 0 y4)) - (qB ((kE.getD 1 []).getD 1 y4)))) * ((Rat.divInt 1 2) * ((qB ((kE.getD 0 []).getD 0 y4)) - (qB ((kE.getD 1 []).getD 1 y4))))) + ((qB ((kE.getD 0 []).getD 1 y4)) * (qB ((kE.getD 0 []).getD 1 y4)))) * (((((2 ^ 3 : Nat) : Int) : Int) : Rat) * ((((2 ^ 3 : Nat) : Int) : Int) : Rat)))) ((2 ^ 3 : Nat) : Int)))))) (jQ y2) vP (by exact (by rw [kEa, kEb, kEc]; exact congrArg jQ (rng2 (by decide +kernel) (by decide +kernel)))))<|zE (oQd (jQ (kR.mk (jM (((Rat.divInt 1 2) * ((qB ((kE.getD 0 []).getD 0 y4)) + (qB ((kE.getD 1 []).getD 1 y4)))) - (Rat.divInt (upI (((((Rat.divInt 1 2) * ((qB ((kE.getD 0 []).getD 0 y4)) - (qB ((kE.getD 1 []).getD 1 y4)))) * ((Rat.divInt 1 2) * ((qB ((kE.getD 0 []).getD 0 y4)) - (qB ((kE.getD 1 []).getD 1 y4))))) + ((qB ((kE.getD 0 []).getD 1 y4)) * (qB ((kE.getD 0 []).getD 1 y4)))) * (((((2 ^ 3 : Nat) : Int) : Int) : Rat) * ((((2 ^ 3 : Nat) : Int) : Int) : Rat)))) ((2 ^ 3 : Nat) : Int)))) (jM (((Rat.divInt 1 2) * ((qB ((kE.getD 0 []).getD 0 y4)) + (qB ((kE.getD 1 []).getD 1 y4)))) - (Rat.divInt (qC (gO (((((Rat.divInt 1 2) * ((qB ((kE.getD 0 []).getD 0 y4)) - (qB ((kE.getD 1 []).getD 1 y4)))) * ((Rat.divInt 1 2) * ((qB ((kE.getD 0 []).getD 0 y4)) - (qB ((kE.getD 1 []).getD 1 y4))))) + ((qB ((kE.getD 0 []).getD 1 y4)) * (qB ((kE.getD 0 []).getD 1 y4)))) * (((((2 ^ 3 : Nat) : Int) : Int) : Rat) * ((((2 ^ 3 : Nat) : Int) : Int) : Rat))))) ((2 ^ 3 : Nat) : Int)))))) (jQ y3) vP (by exact (by rw [kEa, kEb, kEc]; exact congrArg jQ (rng2 (by decide +kernel) (by decide +kernel)))))<|zE vP<|zN (uU 1 xY yC)<|zN (uU 2 xY yC)<|zT (qM uA)<|zT (qM uA)<|zM<|zZ) ?_
 refine jB<|kx [(7, (vb true)), (8, (jN 0))] [] (zE (jZ (zV 10 (by decide) (by decide)))<|zE (jZ (zV 4 (by decide) (by decide)))<|zE (jZ (zV 4 (by decide) (by decide)))<|zE (jZ (zV 14 (by decide) (by decide)))<|zE (jZ (p_cov (jM ((10 : Int) : Rat)) ((10 : Int) : Rat) (jP (jX (gD (z := 10) (yO (by decide)) (by decide))) (by decide)) (jM ((4 : Int) : Rat)) ((4 : Int) : Rat) (jP (jX (gD (z := 4) (yO (by decide)) (by decide))) (by decide)) (jM ((4 : Int) : Rat)) ((4 : Int) : Rat) (jP (jX (gD (z := 4) (yO (by decide)) (by decide))) (by decide)) (jM ((14 : Int) : Rat)) ((14 : Int) : Rat) (jP (jX (gD (z := 14) (yO (by decide)) (by decide))) (by decide)) (by decide +kernel) (by decide +kernel) (by decide +kernel) (by decide +kernel) (by decide +kernel) (by decide +kernel)))<|zM<|zE (oQd (.val (.bool ((decide ((yJ ((((14 : Int) : Rat) - ((10 : Int) : Rat)) * (((14 : Int) : Rat) - ((10 : Int) : Rat))) (((4 : Int) : Rat) * ((4 : Int) : Rat))) ≤ 0))))) (.val (.bool (true))) vP (by exact (congrArg (fun b => kA.val (.bool b)) (by decide +kernel))))<|zE vP<|zM<|zM<|zZ) ?_
 refine jB<|kd [(0, (vb true))] [] mo (wM<|wE (xL true gA)<|wM<|wM<|wE (xL true gA)<|wE hZ<|wM<|wM<|wE (xL true gA)<|wE hZ<|wM<|wM<|wE hZ<|wM<|wR (kP jO)<|wE (jZ (zV 25 (by decide) (by decide)))<|wE (xL true (jZ (by have h := g_same (jM ((25 : Int) : Rat)) (jM ((25 : Int) : Rat)) ((25 : Int) : Rat) ((25 : Int) : Rat) (jP (jX (gD (nF (by decide) (by decide)) (by decide))) (by decide)) (jP (jX (gD (z := 25) (yO (by decide)) (by decide))) (by decide)); rw [sameR_of] at h; exact h)) (by exact decide_eq_true rfl))<|wE hZ<|wM<|wR (kP uA)<|wE (jZ (h_whole 9 9 (by decide) (by decide) (by decide) (by decide)))<|wE (jZ (by have h := h_same y2 y2 (cW (⟨uW (jP (jX (gD (nF (by decide) (by decide)) (by decide))) (by decide : 3 ≤ 3)), uW (jP (jX (gD (nF (by decide) (by decide)) (by decide))) (by decide : 3 ≤ 3))⟩) (by decide)) (cW (⟨uW (jP (jX (gD (z := 9) (yO (by decide)) (by decide))) (by decide : 1 ≤ 1)), uW (jP (jX (gD (z := 9) (yO (by decide)) (by decide))) (by decide : 1 ≤ 1))⟩) (by decide)); rw [show sameG y2 y2 = true from by rw [sameG_of]; kernel_rfl] at h; exact h))<|wE hZ<|wM<|wR (kP uA)<|wE (jZ (h_whole 1 1 (by decide) (by decide) (by decide) (by decide)))<|wE (jZ (by have h := h_same y3 y3 (cW (⟨uW (jP (jX (gD (nF (by decide) (by decide)) (by decide))) (by decide : 3 ≤ 3)), uW (jP (jX (gD (nF (by decide) (by decide)) (by decide))) (by decide : 3 ≤ 3))⟩) (by decide)) (cW (⟨uW (jP (jX (gD (z := 1) (yO (by decide)) (by decide))) (by decide : 1 ≤ 1)), uW (jP (jX (gD (z := 1) (yO (by decide)) (by decide))) (by decide : 1 ≤ 1))⟩) (by decide)); rw [show sameG y3 y3 = true from by rw [sameG_of]; kernel_rfl] at h; exact h))<|wE hZ<|wM<|wZ) ?_
 refine jE ⟨_, (.tmp (d := (.val (.bool (true)))) rfl .nil), ?_⟩
 rfl
end Go.Proofs.YtnajallgoaiahaaGreatDoor
