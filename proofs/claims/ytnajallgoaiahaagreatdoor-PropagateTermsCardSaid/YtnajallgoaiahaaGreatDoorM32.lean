/- Part 32 of a proof: rules, plain facts, and functions walked. -/
import Derived.Test.YtnajallgoaiahaaGreatDoorM31
import Derived.Test.YtnajallgoaiahaaGreatDoorM30
namespace Go.Proofs.YtnajallgoaiahaaGreatDoor
open Go.Fid
set_option maxRecDepth 4000
set_option linter.unusedVariables false
set_option linter.unusedSimpArgs false
theorem cb75 : callB Tryz.prog 75 = true := by kernel_rfl
theorem cb131 : callB Tryz.prog 131 = true := by kernel_rfl
theorem cb211 : callB Tryz.prog 211 = true := by kernel_rfl
theorem cb212 : callB Tryz.prog 212 = true := by kernel_rfl
theorem m_apl1 (m : List (List kD)) (hm : nD 1048576 m) (h0 : 0 < m.length) : jT Tryz.prog 212 [(.cptr 1000000 (kA.cells (.sl 24 1 (List.map jR m))) 0)] (.val (.int .i64 (((((m).getD 0 []).length : Nat) : Int)))) := by
 have hmb := hm.2
 have hrb := (xT (d := []) hm h0).2
 refine jJ Tryz.func212 rfl cb212 rfl ?_
 show qR _ _ _ _ ⟨[(0, (.d (.cptr 1000000 (kA.cells (.sl 24 1 (List.map jR m))) 0)))], []⟩
 refine jB<|kx [] [] (zM<|zZ) ?_
 refine jB<|kx [(1, (jN ((m.getD 0 []).length)))] [] (zE (xI sh34)<|zE (zU eB 0 ([] : List (kD)))<|zE (xI sh24)<|zE (vX qN (L := (m.getD 0 [])))<|zM<|zZ) ?_
 refine jE ⟨_, (.tmp (d := (.val (.int .i64 ((((m.getD 0 []).length : Nat) : Int))))) rfl .nil), ?_⟩
 rfl
theorem m_list (m : List (List kD)) (hm : nD 1048576 m) (v : List kD) (hv : yR 1048576 v) (q : List (List kD)) (hq : nD 1048576 q) (hr : dP m m.length v.length) (hvv : bO v = true) (hq0 : (q.getD 0 []).length = v.length) (hqm : 0 < q.length) : jT Tryz.prog 211 [(.sl 24 1 (List.map jR m)), (.sl 45 4 (List.map jH v)), (.clo 212 [(.cptr 1000000 (kA.cells (.sl 24 1 (List.map jR q))) 0)])] (.val (.int .i64 (((0 : Nat) : Int)))) := by
 have hvb := hv.2
 have hc0 := rect_chk hr
 have hmb := hr.r64
 refine jJ Tryz.func211 rfl cb211 rfl ?_
 show qR _ _ _ _ ⟨[(0, (vl 24 1 jR m)), (1, (vl 45 4 jH v)), (2, (.d (.clo 212 [(.cptr 1000000 (kA.cells (.sl 24 1 (List.map jR q))) 0)])))], []⟩
 refine jB<|kx [] [] (zM<|zZ) ?_
 refine jB<|jB<|kx [(7, (jN (mchk m)))] [] (zM<|zE (jZ (m_chk m hm))<|zM<|zZ) ?_
 refine jB<|kx [(11, (vb false))] [] (zM<|zE (xL false nR (by exact bne_eq_false_iff_eq.2 (by rw [show (mchk m) = 0 from hc0] <;> rfl)))<|zZ) ?_
 refine kZ ?_
 refine jD<|jB<|jB<|kx [(15, (vb false))] [] (zM<|zE (xL true (jZ (m_can v hv (by assumption))) (by exact hvv))<|zE fC<|zZ) ?_
 refine kZ ?_
 refine jD<|jB<|jB<|kx [(20, (vb false))] [] (zM<|zE (vX qN)<|zM<|zE (oCd (ds := []) (caps := [(.cptr 1000000 (kA.cells (.sl 24 1 (List.map jR q))) 0)]) (m_apl1 q hq hqm))<|zE (xL false nR (by exact bne_eq_false_iff_eq.2 (congrArg (fun z : Nat => (z : Int)) hq0.symm)))<|zZ) ?_
 refine kZ ?_
 refine jD<|jB<|kx [(6, (jN 0))] [] (zM<|zZ) ?_
 refine jE ⟨_, (.tmp (d := (.val (.int .i64 (((0 : Nat) : Int))))) rfl .nil), ?_⟩
 rfl
theorem m_aply (m : List (List kD)) (hm : nD 1048576 m) (v : List kD) (hv : yR 1048576 v) (hr : dP m m.length v.length) (hvv : bO v = true) : jT Tryz.prog 131 [(.sl 24 1 (List.map jR m)), (.sl 45 4 (List.map jH v))] (.tup [(.sl 45 4 (List.map jH (appR m v))), (.val (.int .i64 (((0 : Nat) : Int))))]) := by
 have hvb := hv.2
 have hmb := hr.r64
 have hm1 := hr.r1
 have hv64 := hr.c64
 have hq0 := (hr.at (i := 0) hm1).1
 refine jJ Tryz.func131 rfl cb131 rfl ?_
 show qR _ _ _ _ ⟨[(0, (vl 24 1 jR m)), (1, (vl 45 4 jH v))], []⟩
 refine jB<|kx [(2, (.ref 0 0))] [(0, some (bx (.sl 24 1 (List.map jR m))))] (zN (xA 0)<|zE (mP 45 4)<|zM<|zZ) ?_
 refine jB<|jB<|kx [(6, (jN 0))] [] (zR (uL sh34)<|zM<|zE (oMf [0])<|zC (oCg [(0, (kA.cells (.sl 24 1 (List.map jR m))))] [(vl 24 1 jR m), (vl 45 4 jH v), (.clo 212 [0])] (m_list m hm v hv m hm hr hvv (by assumption) (by omega)) (.d (.d (.c (css := [(kA.cells (.sl 24 1 (List.map jR m)))]) (.cons (.head _) .nil) .nil))) (.val _))<|zM<|zZ) ?_
 refine jB<|kx [(12, (vb false))] [] (zM<|zE (xL false nR)<|zZ) ?_
 refine kZ ?_
 refine jD<|jB<|kx [(4, (vl 45 4 jH (appR m v))), (5, (jN 0))] [] (zR (uL sh34)<|zM<|zE (jZ (m_app m hm v hv (fun r h => (hr.hc r h).1) (by omega) (by omega)))<|zM<|zM<|zZ) ?_
 refine jE ⟨_, (.tmp (d := (.sl 45 4 (List.map jH (appR m v)))) rfl (.tmp (d := (.val (.int .i64 (((0 : Nat) : Int))))) rfl .nil)), ?_⟩
 rfl
theorem m_cov (m : List (List kD)) (hm : nD 1048576 m) (a : List kD) (ha : yR 1048576 a) (v : List kD) (hv : yR 1048576 v) (hr : dP m m.length v.length) (hvv : bO v = true) (hal : a.length = m.length) (hvl : v.length = m.length) : jT Tryz.prog 75 [(.sl 24 1 (List.map jR m)), (.sl 45 4 (List.map jH a)), (.sl 45 4 (List.map jH v))] (jH (jM (covR m a v))) := by
 have hab := ha.2
 have hvb := hv.2
 have hmb := hr.r64
 have hm1 := hr.r1
 have hv64 := hr.c64
 have hpl := appR_len m v
 refine jJ Tryz.func75 rfl cb75 rfl ?_
 show qR _ _ _ _ ⟨[(0, (vl 24 1 jR m)), (1, (vl 45 4 jH a)), (2, (vl 45 4 jH v))], []⟩
 refine jB<|kx [(6, (.ref 0 0))] [(0, some (bx (jH kW)))] (zN (uU 0 qA qO)<|zZ) ?_
 refine jB<|kx [(7, (vl 45 4 jH (appR m v)))] [] (zM<|zM<|zE (jZ (m_aply m hm v hv hr hvv))<|zM<|zE vP<|zE vP<|zM<|zM<|zZ) ?_
 refine jB<|kx [(9, (.ref 1 0))] [(1, some (bx (jH (jM (dotR a (appR m v))))))] (zM<|zM<|zE (jZ (m_Dot a ha (appR m v) (appR_ok hm hv (mcol_le (fun r h => (hr.hc r h).1) hr.c64)) (hal.trans hpl.symm) (by omega)))<|zM<|zE vP<|zE vP<|zN (uU 1 qA qO)<|zT (qM jO)<|zM<|zZ) ?_
 refine jB<|kx [] [(0, some (bx (jH (jM (dotR a (appR m v))))))] (zR (kP jO)<|zT (qM jO)<|zZ) ?_
 refine jE ⟨_, (kU (cs := (bx (jH (jM (dotR a (appR m v)))))) (d := (jH (jM (dotR a (appR m v))))) rfl rfl jO rfl rfl .nil), ?_⟩
 rfl
theorem cb190 : callB Tryz.prog 190 = true := by kernel_rfl
theorem cb191 : callB Tryz.prog 191 = true := by kernel_rfl
theorem cb195 : callB Tryz.prog 195 = true := by kernel_rfl
theorem cb197 : callB Tryz.prog 197 = true := by kernel_rfl
theorem cb243 : callB Tryz.prog 243 = true := by kernel_rfl
theorem fo95_0 : vR Tryz.prog 95 0 = some 0 := by kernel_rfl
theorem fo95_1 : vR Tryz.prog 95 1 = some 8 := by kernel_rfl
theorem fo161_2 : vR Tryz.prog 161 2 = some 2 := by kernel_rfl
theorem sh86 : qL Tryz.prog 86 = some (false, 1) := by kernel_rfl
theorem j_round (n : Nat) (x : kA) (a : R2) (ha : GL 67108864 a) : jT Tryz.prog 243 [(.cptr 1000000 (kA.cells (.agg [(.val (.int .i64 (((n : Nat) : Int)))), (.val (.int .i64 (((1 : Nat) : Int)))), (.val (.int .i64 (-1))), (x), (.val (.bool (false)))])) 0), (jQ (uR a))] (jQ (uR a)) := by
 refine jJ Tryz.func243 rfl cb243 rfl ?_
 show qR _ _ _ _ ⟨[(0, (.d (.cptr 1000000 (kA.cells (.agg [(.val (.int .i64 (((n : Nat) : Int)))), (.val (.int .i64 (((1 : Nat) : Int)))), (.val (.int .i64 (-1))), (x), (.val (.bool (false)))])) 0))), (1, (.d (jQ (uR a))))], []⟩
 refine jB<|kx [(3, (.ref 0 0)), (4, (.ref 1 0))] [(0, some (bx (jQ (uR a)))), (1, some (bx (jQ (kR.mk kW kW))))] (zN (xA 0)<|zN (uU 1 xY yC)<|zZ) ?_
 refine jB<|jB<|kx [(9, (vb true))] [] (zM<|zE oNd<|zE (fW fo161_2)<|zE (xI yV)<|zE (xL true vZ)<|zZ) ?_
 refine xD ?_
 refine jB<|kx [] [(1, some (bx (jQ (uR a))))] (zR (kP uA)<|zT (qM uA)<|zZ) ?_
 refine jE ⟨_, (kU (cs := (bx (jQ (uR a)))) (d := (jQ (uR a))) rfl rfl uA rfl rfl .nil), ?_⟩
 rfl
theorem j_vV (bv : List R2) (hbx : ∀ x ∈ bv, GL 1048576 x) (a : Nat) (ha : a < bv.length) (hbl : bv.length ≤ 1000000) : jT Tryz.prog 190 [(.cptr 1000000 (kA.cells (.sl 61 8 (List.map jQ (List.map uR bv)))) 0), (.cptr 1000000 (kA.cells (jS (kK.mk 1 ((a : Nat) : Int) 0 kW))) 0)] (jQ (uR (bv.getD a z2))) := by
 refine jJ Tryz.func190 rfl cb190 rfl ?_
 show qR _ _ _ _ ⟨[(0, (.d (.cptr 1000000 (kA.cells (.sl 61 8 (List.map jQ (List.map uR bv)))) 0))), (1, (.d (.cptr 1000000 (kA.cells (jS (kK.mk 1 ((a : Nat) : Int) 0 kW))) 0)))], []⟩
 refine jB<|kx [(2, (.ref 0 0))] [(0, some (bx (jQ (kR.mk kW kW))))] (zN (uU 0 xY yC)<|zZ) ?_
 refine jB<|kx [] [(0, some (bx (jQ (uR (bv.getD a z2)))))] (zE (xI sh86)<|zE (fW xM)<|zE (xI yV)<|zE (oXm fH uR a z2 (hj := by first | omega | rfl | (dsimp only; omega)) (h1 := by first | omega | rfl | (dsimp only; omega)))<|zE (dM uA)<|zT (qM uA)<|zZ) ?_
 refine jE ⟨_, (kU (cs := (bx (jQ (uR (bv.getD a z2))))) (d := (jQ (uR (bv.getD a z2)))) rfl rfl uA rfl rfl .nil), ?_⟩
 rfl
theorem j_gV (wp : kA) (i : Nat) (a : Nat) (zz : R2) (hzz : GL 3 zz) : jT Tryz.prog 191 [(wp), (.val (.int .i64 (((i : Nat) : Int)))), (.cptr 1000000 (kA.cells (jS (kK.mk 1 ((a : Nat) : Int) 0 kW))) 0), (.cptr 1000000 (kA.cells (jQ (uR zz))) 0)] (jQ (uR (if ((i : Nat) : Int) = ((a : Nat) : Int) then gw 1 else zz))) := by
 refine jJ Tryz.func191 rfl cb191 rfl ?_
 show qR _ _ _ _ ⟨[(0, (.d (wp))), (1, (jN i)), (2, (.d (.cptr 1000000 (kA.cells (jS (kK.mk 1 ((a : Nat) : Int) 0 kW))) 0))), (3, (.d (.cptr 1000000 (kA.cells (jQ (uR zz))) 0)))], []⟩
 refine jB<|kx [(6, (.ref 0 0))] [(0, some (bx (jQ (kR.mk kW kW))))] (zN (uU 0 xY yC)<|zZ) ?_
 refine jB<|jB<|kx [(10, (vb (((i : Nat) : Int) == ((a : Nat) : Int))))] [] (zM<|zE (fW xM)<|zE (xI yV)<|zE gA<|zZ) ?_
 refine jF (b := (((i : Nat) : Int) == ((a : Nat) : Int))) rfl (fun h1 => ?_) (fun h1 => ?_)
 ·replace h1 := eq_of_beq h1
  refine jB<|kx [] [(0, some (bx (jQ (uR (gw 1)))))] (zE (jZ (j_whole 1 (by omega) (by omega)))<|zT (qM uA)<|zZ) ?_
  refine jE ⟨_, (kU (cs := (bx (jQ (uR (gw 1))))) (d := (jQ (uR (gw 1)))) rfl rfl uA rfl rfl .nil), ?_⟩
  rw [if_pos h1]; rfl
 ·replace h1 := ne_of_beq_false h1
  refine jD<|jB<|kx [] [(0, some (bx (jQ (uR zz))))] (zE (dM uA)<|zT (qM uA)<|zZ) ?_
  refine jE ⟨_, (kU (cs := (bx (jQ (uR zz)))) (d := (jQ (uR zz))) rfl rfl uA rfl rfl .nil), ?_⟩
  rw [if_neg h1]; rfl
theorem j_vM (n : Nat) (u : JV) (hu : JOk 1048576 n u) (v : JV) (hv : JOk 1048576 n v) : jT Tryz.prog 195 [(.cptr 1000000 (kA.cells (jY (uJ u))) 0), (.cptr 1000000 (kA.cells (jY (uJ v))) 0)] (jQ (uR (uD u.v v.v))) := by
 refine jJ Tryz.func195 rfl cb195 rfl ?_
 show qR _ _ _ _ ⟨[(0, (.d (.cptr 1000000 (kA.cells (jY (uJ u))) 0))), (1, (.d (.cptr 1000000 (kA.cells (jY (uJ v))) 0)))], []⟩
 refine jB<|kx [(2, (.ref 0 0))] [(0, some (bx (jQ (kR.mk kW kW))))] (zN (uU 0 xY yC)<|zZ) ?_
 refine jB<|kx [] [(0, some (bx (jQ (uR (uD u.v v.v)))))] (zE (fW fo95_0)<|zE (dM uA)<|zE (fW fo95_0)<|zE (dM uA)<|zE (jZ (j_mul u.v (gl_up hu.1 (by decide)) v.v (gl_up hv.1 (by decide))))<|zT (qM uA)<|zZ) ?_
 refine jE ⟨_, (kU (cs := (bx (jQ (uR (uD u.v v.v))))) (d := (jQ (uR (uD u.v v.v)))) rfl rfl uA rfl rfl .nil), ?_⟩
 rfl
theorem j_gM (wp : kA) (i : Nat) (n : Nat) (u : JV) (hu : JOk 1048576 n u) (v : JV) (hv : JOk 1048576 n v) (hi : i < n) : jT Tryz.prog 197 [(wp), (.val (.int .i64 (((i : Nat) : Int)))), (.cptr 1000000 (kA.cells (jY (uJ u))) 0), (.cptr 1000000 (kA.cells (jY (uJ v))) 0)] (jQ (uR (mL (uD u.v (v.g.getD i z2)) (uD v.v (u.g.getD i z2))))) := by
 have hul := hu.2.2
 have hvl := hv.2.2
 refine jJ Tryz.func197 rfl cb197 rfl ?_
 show qR _ _ _ _ ⟨[(0, (.d (wp))), (1, (jN i)), (2, (.d (.cptr 1000000 (kA.cells (jY (uJ u))) 0))), (3, (.d (.cptr 1000000 (kA.cells (jY (uJ v))) 0)))], []⟩
 refine jB<|kx [(6, (.ref 0 0))] [(0, some (bx (jQ (kR.mk kW kW))))] (zN (uU 0 xY yC)<|zZ) ?_
 refine jB<|kd [] [(0, some (bx (jQ (uR (mL (uD u.v (v.g.getD i z2)) (uD v.v (u.g.getD i z2)))))))] mo (wE (fW fo95_0)<|wE (dM uA)<|wE (fW fo95_1)<|wE (xI sh86)<|wM<|wE (oXm fH uR i z2)<|wE (dM uA)<|wE (jZ (j_mul u.v (gl_up hu.1 (by decide)) (v.g.getD i z2) (gl_up (aC hv.2.1 (by decide) i) (by decide))))<|wE (fW fo95_0)<|wE (dM uA)<|wE (fW fo95_1)<|wE (xI sh86)<|wM<|wE (oXm fH uR i z2)<|wE (dM uA)<|wE (jZ (j_mul v.v (gl_up hv.1 (by decide)) (u.g.getD i z2) (gl_up (aC hu.2.1 (by decide) i) (by decide))))<|wE (jZ (j_add (uD u.v (v.g.getD i z2)) (gl_up (gl_mul (k := 2097152) hu.1 (aC hv.2.1 (by decide) i) (by decide)) (by decide)) (uD v.v (u.g.getD i z2)) (gl_up (gl_mul (k := 2097152) hv.1 (aC hu.2.1 (by decide) i) (by decide)) (by decide))))<|wT (qM uA)<|wZ) ?_
 refine jE ⟨_, (kU (cs := (bx (jQ (uR (mL (uD u.v (v.g.getD i z2)) (uD v.v (u.g.getD i z2))))))) (d := (jQ (uR (mL (uD u.v (v.g.getD i z2)) (uD v.v (u.g.getD i z2)))))) rfl rfl uA rfl rfl .nil), ?_⟩
 rfl
theorem by61 : xW Tryz.prog 61 = some 128 := by kernel_rfl
theorem by95 : xW Tryz.prog 95 = some 176 := by kernel_rfl
theorem cb184 : callB Tryz.prog 184 = true := by kernel_rfl
theorem el143 : uZ Tryz.prog 143 = some (95, 10) := by kernel_rfl
theorem fo161_0 : vR Tryz.prog 161 0 = some 0 := by kernel_rfl
theorem fo161_1 : vR Tryz.prog 161 1 = some 1 := by kernel_rfl
theorem fZ : vR Tryz.prog 161 3 = some 3 := by kernel_rfl
theorem pl95 : mT Tryz.prog 95 = some [(0, 8), (8, 1), (9, 1)] := by kernel_rfl
theorem sh95 : qL Tryz.prog 95 = some (true, 10) := by kernel_rfl
theorem sh143 : qL Tryz.prog 143 = some (false, 1) := by kernel_rfl
theorem ze95 : xH Tryz.prog 95 = some [.bool false, .slice none 0 0, .bool false, .slice none 0 0, .bool false, .slice none 0 0, .bool false, .slice none 0 0, .slice none 0 0, .slice none 0 0] := by kernel_rfl
theorem zn95 : eC [.bool false, .slice none 0 0, .bool false, .slice none 0 0, .bool false, .slice none 0 0, .bool false, .slice none 0 0, .slice none 0 0, .slice none 0 0] [.val (.bool false), .val (.slice none 0 0), .val (.bool false), .val (.slice none 0 0), .val (.bool false), .val (.slice none 0 0), .val (.bool false), .val (.slice none 0 0), .val (.slice none 0 0), .val (.slice none 0 0)] := by simp [eC, Value.oneCell']
theorem zo95 : eC [.bool false, .slice none 0 0, .bool false, .slice none 0 0, .bool false, .slice none 0 0, .bool false, .slice none 0 0, .slice none 0 0, .slice none 0 0] [.val (.bool false), .sl 140 1 [], .val (.bool false), .sl 140 1 [], .val (.bool false), .sl 140 1 [], .val (.bool false), .sl 140 1 [], .sl 61 8 [], .sl 86 1 []] := by simp [eC, Value.oneCell']
theorem e_nodeV (n : Nat) (L : List JV) (bv : List R2) (hbx : ∀ x ∈ bv, GL 1048576 x) (a : Nat) (zz : R2) (hzz : GL 3 zz) (hn : n ≤ 64) (hL : L.length ≤ 1000) (ha : a < bv.length) (hbl : bv.length ≤ 1000000) : gB Tryz.prog 184 [(.ref 0 0), (.clo 190 [2, 3]), (.clo 191 [3, 4]), (.clo 181 [4])] [(0, some [(jN n), (jN 1), (vi (-1)), (.own 1 95 10 ((List.map uJ L).length)), (vb false)]), (1, some (qQ jY (List.map uJ L))), (2, some (bx (.sl 61 8 (List.map jQ (List.map uR bv))))), (3, some (bx (jS (kK.mk 1 ((a : Nat) : Int) 0 kW)))), (4, some (bx (jQ (uR zz))))] (.d (.tup [])) [(0, some [(jN n), (jN 1), (vi (-1)), (.own 9 95 10 ((List.map uJ (L ++ [(jk (bv.getD a z2) (fun i => (if ((i : Nat) : Int) = ((a : Nat) : Int) then gw 1 else zz)) n)])).length)), (vb false)]), (9, some (qQ jY (List.map uJ (L ++ [(jk (bv.getD a z2) (fun i => (if ((i : Nat) : Int) = ((a : Nat) : Int) then gw 1 else zz)) n)]))))] := by
 let y2 := kW
 let y1 := (bx (.sl 61 8 (List.map jQ (List.map uR bv))))
 refine nN Tryz.func184 rfl cb184 rfl ?_
 show qR _ _ _ _ ⟨[(0, (.ref 0 0)), (1, (.clo 190 [2, 3])), (2, (.clo 191 [3, 4])), (3, (.clo 181 [4]))], [(0, some [(jN n), (jN 1), (vi (-1)), (.own 1 95 10 ((List.map uJ L).length)), (vb false)]), (1, some (qQ jY (List.map uJ L))), (2, some y1), (3, some (bx (jS (kK.mk 1 ((a : Nat) : Int) 0 y2)))), (4, some (bx (jQ (uR zz))))]⟩
 refine jB<|kx [(8, (.ref 5 0))] [(5, some (bx (.agg (kA.cells (jQ (uR (bv.getD a z2))) ++ [(.val (.slice none 0 0)), (.val (.slice none 0 0))]))))] (zM<|zM<|zC (oCc (ds := []) [2, 3] [(kA.cells (.sl 61 8 (List.map jQ (List.map uR bv)))), (kA.cells (jS (kK.mk 1 ((a : Nat) : Int) 0 y2)))] (j_vV bv hbx a ha hbl) (dN (by decide) _))<|zC (oCh [(0, [(jN n), (jN 1), (vi (-1)), (.own 1 95 10 ((List.map uJ L).length)), (vb false)], (kA.cells (.agg [(.val (.int .i64 (((n : Nat) : Int)))), (.val (.int .i64 (((1 : Nat) : Int)))), (.val (.int .i64 (-1))), (.sl 1000000 10 (List.map jY (List.map uJ L))), (.val (.bool (false)))]))), (1, (qQ jY (List.map uJ L)), (flat (List.map jY (List.map uJ L))))] [(.ref 0 0), (.d (jQ (uR (bv.getD a z2))))] (j_round n (.sl 1000000 10 (List.map jY (List.map uJ L))) (bv.getD a z2) (gl_up (aC hbx (by decide) a) (by decide))) (.cons (.r (.head _)) (.cons .d .nil)) (.cons (.cons .d (.cons .d (.cons .d (.cons (fL (F := jY) (L := (List.map uJ L)) (.head _) (fun _ => rfl) rfl) (.cons .d .nil))))) (.cons (.all (by exact rfl)) .nil)) (dN (by decide) _) (ex := []))<|zE (bS pl95 ze95 zn95)<|zH (uU 5 ze95 zo95)<|zT (qM sh95)<|zZ) ?_
 refine jB<|jB<|kx [(22, (vb true))] [] (zM<|zE oNc<|zE (qD fo161_1)<|zR (uL yV)<|zE (xL true mO)<|zZ) ?_
 refine xD ?_
 refine jB<|fP 5 8 6 61 8 (cs := (bx (.agg (kA.cells (jQ (uR (bv.getD a z2))) ++ [(.val (.slice none 0 0)), (.val (.slice none 0 0))])))) (h := ?_)
 refine kH (wk (l := [(0, (.ref 0 0)), (1, (.clo 190 [2, 3])), (2, (.clo 191 [3, 4])), (3, (.clo 181 [4])), (8, (.ref 5 0)), (22, (vb true))]) (b := [(0, some [(jN n), (jN 1), (vi (-1)), (.own 1 95 10 ((List.map uJ L).length)), (vb false)]), (1, some (qQ jY (List.map uJ L))), (2, some y1), (3, some (bx (jS (kK.mk 1 ((a : Nat) : Int) 0 y2)))), (4, some (bx (jQ (uR zz)))), (5, some (bx (jQ (uR (bv.getD a z2))) ++ [(.own 6 61 8 0), (.d (.val (.slice none 0 0)))])), (6, some (qQ jQ []))])) ?_
 refine fP 5 9 7 86 1 (cs := (bx (jQ (uR (bv.getD a z2))) ++ [(.own 6 61 8 0), (.d (.val (.slice none 0 0)))])) (h := ?_)
 refine kH (wk (l := [(0, (.ref 0 0)), (1, (.clo 190 [2, 3])), (2, (.clo 191 [3, 4])), (3, (.clo 181 [4])), (8, (.ref 5 0)), (22, (vb true))]) (b := [(0, some [(jN n), (jN 1), (vi (-1)), (.own 1 95 10 ((List.map uJ L).length)), (vb false)]), (1, some (qQ jY (List.map uJ L))), (2, some y1), (3, some (bx (jS (kK.mk 1 ((a : Nat) : Int) 0 y2)))), (4, some (bx (jQ (uR zz)))), (5, some (bx (jQ (uR (bv.getD a z2))) ++ [(.own 6 61 8 0), (.own 7 86 1 0)])), (6, some (qQ jQ [])), (7, some (bm uV []))])) ?_
 refine kx [(26, (jN n)), (27, (jN 0))] [] (zM<|zE oNc<|zE (qD fo161_0)<|zR (uL yV)<|zM<|zZ) ?_
 refine jG<|kI (α := Nat × List kR) (fun (i, gl) => ⟨[(0, (.ref 0 0)), (1, (.clo 190 [2, 3])), (2, (.clo 191 [3, 4])), (3, (.clo 181 [4])), (8, (.ref 5 0)), (26, (jN n)), (27, (jN i))], [(0, some [(jN n), (jN 1), (vi (-1)), (.own 1 95 10 ((List.map uJ L).length)), (vb false)]), (1, some (qQ jY (List.map uJ L))), (2, some y1), (3, some (bx (jS (kK.mk 1 ((a : Nat) : Int) 0 y2)))), (4, some (bx (jQ (uR zz)))), (5, some (bx (jQ (uR (bv.getD a z2))) ++ [(.own 6 61 8 gl.length), (.own 7 86 1 0)])), (6, some (qQ jQ gl)), (7, some (bm uV []))]⟩) (fun (i, gl) => i ≤ n ∧ gl = List.map uR (List.map (fun (i : Nat) => (if ((i : Nat) : Int) = ((a : Nat) : Int) then gw 1 else zz)) (List.range i))) (fun (i, gl) => n - i) (0, []) wk ⟨Nat.zero_le _, rfl⟩ ?_
 rintro ⟨i, gl⟩ ⟨hi, hg⟩
 have hgl : gl.length = i := jk_len (G := (fun (i : Nat) => (if ((i : Nat) : Int) = ((a : Nat) : Int) then gw 1 else zz))) hg
 refine jB<|kx [(28, (vb (decide (((i : Nat) : Int) < ((n : Nat) : Int)))))] [] (zE vZ<|zZ) ?_
 refine jB<|jF rfl (fun h1 => ?_) (fun h1 => ?_)
 ·replace h1 := uH h1
  refine jD<|jB<|jG<|jB<|kx [(9, (jN i))] [] (zM<|zM<|zZ) ?_
  refine kd [] [(5, some (bx (jQ (uR (bv.getD a z2))) ++ [(.own 8 61 8 ((gl ++ [(uR (if ((i : Nat) : Int) = ((a : Nat) : Int) then gw 1 else zz))]).length)), (.own 7 86 1 0)])), (8, some (qQ jQ (gl ++ [(uR (if ((i : Nat) : Int) = ((a : Nat) : Int) then gw 1 else zz))]))), (6, none)] mo (wE (qD fo95_1)<|wR (uL sh86)<|wM<|wM<|wM<|wC (oCh [(4, (bx (jQ (uR zz))), (kA.cells (jQ (uR zz)))), (3, (bx (jS (kK.mk 1 ((a : Nat) : Int) 0 y2))), (kA.cells (jS (kK.mk 1 ((a : Nat) : Int) 0 y2)))), (5, (bx (jQ (uR (bv.getD a z2))) ++ [(.own 6 61 8 gl.length), (.own 7 86 1 0)]), (kA.cells (.agg (kA.cells (jQ (uR (bv.getD a z2))) ++ [(.sl 1000000 8 (List.map jQ gl)), (.sl 1000000 1 (List.map uV []))])))), (7, (bm uV []), (flat (List.map uV []))), (6, (qQ jQ gl), (flat (List.map jQ gl)))] [(.ref 5 0), (jN i), .ref 3 0, .ref 4 0] (j_gV (.cptr 1000000 (kA.cells (.agg (kA.cells (jQ (uR (bv.getD a z2))) ++ [(.sl 1000000 8 (List.map jQ gl)), (.sl 1000000 1 (List.map uV []))]))) 0) i a zz hzz) (.cons (.r (.tail _ (.tail _ (.head _)))) (.cons .d (.cons (.r (.tail _ (.head _))) (.cons (.r (.head _)) .nil)))) (.cons (.all rfl) (.cons (.all rfl) (.cons (.cons .d (.cons .d (.cons .d (.cons .d (.cons .d (.cons .d (.cons .d (.cons .d (.cons (fL (F := jQ) (L := gl) (.tail _ (.head _)) (fun _ => rfl) rfl) (.cons (fL (F := uV) (L := []) (.head _) (fun _ => rfl) rfl) .nil)))))))))) (.cons (sees_bm (fun _ => rfl)) (.cons (.all (by exact rfl)) .nil))))) (dN (by decide) _) (ex := [.ref 3 0, .ref 4 0]) (hy := .clo (kk := [3, 4]) (by kernel_rfl) (by kernel_rfl)))<|wC (oCh [(0, [(jN n), (jN 1), (vi (-1)), (.own 1 95 10 ((List.map uJ L).length)), (vb false)], (kA.cells (.agg [(.val (.int .i64 (((n : Nat) : Int)))), (.val (.int .i64 (((1 : Nat) : Int)))), (.val (.int .i64 (-1))), (.sl 1000000 10 (List.map jY (List.map uJ L))), (.val (.bool (false)))]))), (1, (qQ jY (List.map uJ L)), (flat (List.map jY (List.map uJ L))))] [(.ref 0 0), (.d (jQ (uR (if ((i : Nat) : Int) = ((a : Nat) : Int) then gw 1 else zz))))] (j_round n (.sl 1000000 10 (List.map jY (List.map uJ L))) (if ((i : Nat) : Int) = ((a : Nat) : Int) then gw 1 else zz) (gl_up (gl_ite (gl_w (z := 1) (by omega) (by omega)) hzz) (by decide))) (.cons (.r (.head _)) (.cons .d .nil)) (.cons (.cons .d (.cons .d (.cons .d (.cons (fL (F := jY) (L := (List.map uJ L)) (.head _) (fun _ => rfl) rfl) (.cons .d .nil))))) (.cons (.all (by exact rfl)) .nil)) (dN (by decide) _) (ex := []))<|wE (gN fH xY yC)<|wAS (k := 6) 8 jQ gl [(uR (if ((i : Nat) : Int) = ((a : Nat) : Int) then gw 1 else zz))] rfl fH xY by61<|wE (qD fo95_1)<|wT (oSx sh86)<|wZ) ?_
  refine kH (wk (l := [(0, (.ref 0 0)), (1, (.clo 190 [2, 3])), (2, (.clo 191 [3, 4])), (3, (.clo 181 [4])), (8, (.ref 5 0)), (26, (jN n)), (27, (jN i))]) (b := [(0, some [(jN n), (jN 1), (vi (-1)), (.own 1 95 10 ((List.map uJ L).length)), (vb false)]), (1, some (qQ jY (List.map uJ L))), (2, some y1), (3, some (bx (jS (kK.mk 1 ((a : Nat) : Int) 0 y2)))), (4, some (bx (jQ (uR zz)))), (5, some (bx (jQ (uR (bv.getD a z2))) ++ [(.own 8 61 8 ((gl ++ [(uR (if ((i : Nat) : Int) = ((a : Nat) : Int) then gw 1 else zz))]).length)), (.own 7 86 1 0)])), (7, some (bm uV [])), (8, some (qQ jQ (gl ++ [(uR (if ((i : Nat) : Int) = ((a : Nat) : Int) then gw 1 else zz))])))])) ?_
  refine kH (sim_ren2 (S' := [(0, (.ref 0 0)), (1, (.clo 190 [2, 3])), (2, (.clo 191 [3, 4])), (3, (.clo 181 [4])), (8, (.ref 5 0)), (26, (jN n)), (27, (jN i))]) (B' := [(0, some [(jN n), (jN 1), (vi (-1)), (.own 1 95 10 ((List.map uJ L).length)), (vb false)]), (1, some (qQ jY (List.map uJ L))), (2, some y1), (3, some (bx (jS (kK.mk 1 ((a : Nat) : Int) 0 y2)))), (4, some (bx (jQ (uR zz)))), (5, some (bx (jQ (uR (bv.getD a z2))) ++ [(.own 6 61 8 ((gl ++ [(uR (if ((i : Nat) : Int) = ((a : Nat) : Int) then gw 1 else zz))]).length)), (.own 7 86 1 0)])), (6, some (qQ jQ (gl ++ [(uR (if ((i : Nat) : Int) = ((a : Nat) : Int) then gw 1 else zz))]))), (7, some (bm uV []))]) 6 8 5) ?_
  refine kx [(27, (jN (i + 1)))] [] (zE (vG (i + 1))<|zM<|zZ) ?_
  exact ⟨(i + 1, gl ++ [uR (if ((i : Nat) : Int) = ((a : Nat) : Int) then gw 1 else zz)]), wk, ⟨by omega, jk_push (G := (fun (i : Nat) => (if ((i : Nat) : Int) = ((a : Nat) : Int) then gw 1 else zz))) hg⟩, (by first|omega|(dsimp only;omega))⟩
 ·replace h1 := vB h1
  refine kC<|jB<|jB<|kx [(45, (vb false))] [] (zM<|zE oNc<|zE (qD fo161_1)<|zR (uL yV)<|zE (xL false mO)<|zZ) ?_
  refine kZ ?_
  refine jD<|kH (cX (j := 5) (k := 6) (pre := (bx (jQ (uR (bv.getD a z2))))) (post := [(.own 7 86 1 0)]) (es := List.map jQ gl) rfl (by decide) rfl (zI _ _ (fun _ => rfl)) (uG _ _ rfl) (yW jQ gl (fun _ => rfl) rfl)) ?_
  refine kH (wk (l := [(0, (.ref 0 0)), (1, (.clo 190 [2, 3])), (2, (.clo 191 [3, 4])), (3, (.clo 181 [4])), (8, (.ref 5 0)), (45, (vb false))]) (b := [(0, some [(jN n), (jN 1), (vi (-1)), (.own 1 95 10 ((List.map uJ L).length)), (vb false)]), (1, some (qQ jY (List.map uJ L))), (2, some y1), (3, some (bx (jS (kK.mk 1 ((a : Nat) : Int) 0 y2)))), (4, some (bx (jQ (uR zz)))), (5, some (bx (jQ (uR (bv.getD a z2))) ++ [(vl 61 8 jQ gl), (.own 7 86 1 0)])), (7, some (bm uV []))])) ?_
  refine kH (cX (j := 5) (k := 7) (pre := (bx (jQ (uR (bv.getD a z2))) ++ [(vl 61 8 jQ gl)])) (post := []) (es := List.map uV []) rfl (by decide) rfl (uI _ _ (fun _ => rfl)) (uG _ _ rfl) (vE _ _ (fun _ => rfl) rfl)) ?_
  refine kH (wk (l := [(0, (.ref 0 0)), (1, (.clo 190 [2, 3])), (2, (.clo 191 [3, 4])), (3, (.clo 181 [4])), (8, (.ref 5 0)), (45, (vb false))]) (b := [(0, some [(jN n), (jN 1), (vi (-1)), (.own 1 95 10 ((List.map uJ L).length)), (vb false)]), (1, some (qQ jY (List.map uJ L))), (2, some y1), (3, some (bx (jS (kK.mk 1 ((a : Nat) : Int) 0 y2)))), (4, some (bx (jQ (uR zz)))), (5, some (bx (jY (dK.mk (uR (bv.getD a z2)) gl []))))])) ?_
  refine kd [] [(0, some [(jN n), (jN 1), (vi (-1)), (.own 9 95 10 (((List.map uJ L) ++ [(dK.mk (uR (bv.getD a z2)) gl [])]).length)), (vb false)]), (9, some (qQ jY ((List.map uJ L) ++ [(dK.mk (uR (bv.getD a z2)) gl [])]))), (1, none)] mo (wM<|wM<|wE oNc<|wE (qD fZ)<|wR (uL sh143)<|wR (kP sh95)<|wE (gN el143 ze95 zo95)<|wAS (k := 1) 9 jY (List.map uJ L) [(dK.mk (uR (bv.getD a z2)) gl [])] rfl el143 ze95 by95<|wE oNc<|wE (qD fZ)<|wT (oSx sh143)<|wZ) ?_
  have hJ : List.map uJ (L ++ [(jk (bv.getD a z2) (fun i => (if ((i : Nat) : Int) = ((a : Nat) : Int) then gw 1 else zz)) n)]) = List.map uJ L ++ [dK.mk (uR (bv.getD a z2)) gl []] := by rw [List.map_append, hg, show i = n by omega]; rfl
  rw [hJ]
  refine ⟨nZ (by kernel_rfl), dB (by kernel_rfl), .inl ⟨_, .nil, ?_⟩⟩
  rfl
theorem e_nodeM (n : Nat) (L : List JV) (u : JV) (hu : JOk 1048576 n u) (v : JV) (hv : JOk 1048576 n v) (hn : n ≤ 64) (hL : L.length ≤ 1000) : gB Tryz.prog 184 [(.ref 0 0), (.clo 195 [2, 3]), (.clo 197 [2, 3]), (.clo 198 [2, 3])] [(0, some [(jN n), (jN 1), (vi (-1)), (.own 1 95 10 ((List.map uJ L).length)), (vb false)]), (1, some (qQ jY (List.map uJ L))), (2, some (bx (jY (uJ u)))), (3, some (bx (jY (uJ v))))] (.d (.tup [])) [(0, some [(jN n), (jN 1), (vi (-1)), (.own 8 95 10 ((List.map uJ (L ++ [(jk (uD u.v v.v) (fun i => (mL (uD u.v (v.g.getD i z2)) (uD v.v (u.g.getD i z2)))) n)])).length)), (vb false)]), (8, some (qQ jY (List.map uJ (L ++ [(jk (uD u.v v.v) (fun i => (mL (uD u.v (v.g.getD i z2)) (uD v.v (u.g.getD i z2)))) n)]))))] := by
 refine nN Tryz.func184 rfl cb184 rfl ?_
 show qR _ _ _ _ ⟨[(0, (.ref 0 0)), (1, (.clo 195 [2, 3])), (2, (.clo 197 [2, 3])), (3, (.clo 198 [2, 3]))], [(0, some [(jN n), (jN 1), (vi (-1)), (.own 1 95 10 ((List.map uJ L).length)), (vb false)]), (1, some (qQ jY (List.map uJ L))), (2, some (bx (jY (uJ u)))), (3, some (bx (jY (uJ v))))]⟩
 refine jB<|kx [(8, (.ref 4 0))] [(4, some (bx (.agg (kA.cells (jQ (uR (uD u.v v.v))) ++ [(.val (.slice none 0 0)), (.val (.slice none 0 0))]))))] (zM<|zM<|zC (oCc (ds := []) [2, 3] [(kA.cells (jY (uJ u))), (kA.cells (jY (uJ v)))] (j_vM n u hu v hv) (dN (by decide) _))<|zC (oCh [(0, [(jN n), (jN 1), (vi (-1)), (.own 1 95 10 ((List.map uJ L).length)), (vb false)], (kA.cells (.agg [(.val (.int .i64 (((n : Nat) : Int)))), (.val (.int .i64 (((1 : Nat) : Int)))), (.val (.int .i64 (-1))), (.sl 1000000 10 (List.map jY (List.map uJ L))), (.val (.bool (false)))]))), (1, (qQ jY (List.map uJ L)), (flat (List.map jY (List.map uJ L))))] [(.ref 0 0), (.d (jQ (uR (uD u.v v.v))))] (j_round n (.sl 1000000 10 (List.map jY (List.map uJ L))) (uD u.v v.v) (gl_up (gl_mul (k := 2097152) hu.1 hv.1 (by decide)) (by decide))) (.cons (.r (.head _)) (.cons .d .nil)) (.cons (.cons .d (.cons .d (.cons .d (.cons (fL (F := jY) (L := (List.map uJ L)) (.head _) (fun _ => rfl) rfl) (.cons .d .nil))))) (.cons (.all (by exact rfl)) .nil)) (dN (by decide) _) (ex := []))<|zE (bS pl95 ze95 zn95)<|zH (uU 4 ze95 zo95)<|zT (qM sh95)<|zZ) ?_
 refine jB<|jB<|kx [(22, (vb true))] [] (zM<|zE oNc<|zE (qD fo161_1)<|zR (uL yV)<|zE (xL true mO)<|zZ) ?_
 refine xD ?_
 refine jB<|fP 4 8 5 61 8 (cs := (bx (.agg (kA.cells (jQ (uR (uD u.v v.v))) ++ [(.val (.slice none 0 0)), (.val (.slice none 0 0))])))) (h := ?_)
 refine kH (wk (l := [(0, (.ref 0 0)), (1, (.clo 195 [2, 3])), (2, (.clo 197 [2, 3])), (3, (.clo 198 [2, 3])), (8, (.ref 4 0)), (22, (vb true))]) (b := [(0, some [(jN n), (jN 1), (vi (-1)), (.own 1 95 10 ((List.map uJ L).length)), (vb false)]), (1, some (qQ jY (List.map uJ L))), (2, some (bx (jY (uJ u)))), (3, some (bx (jY (uJ v)))), (4, some (bx (jQ (uR (uD u.v v.v))) ++ [(.own 5 61 8 0), (.d (.val (.slice none 0 0)))])), (5, some (qQ jQ []))])) ?_
 refine fP 4 9 6 86 1 (cs := (bx (jQ (uR (uD u.v v.v))) ++ [(.own 5 61 8 0), (.d (.val (.slice none 0 0)))])) (h := ?_)
 refine kH (wk (l := [(0, (.ref 0 0)), (1, (.clo 195 [2, 3])), (2, (.clo 197 [2, 3])), (3, (.clo 198 [2, 3])), (8, (.ref 4 0)), (22, (vb true))]) (b := [(0, some [(jN n), (jN 1), (vi (-1)), (.own 1 95 10 ((List.map uJ L).length)), (vb false)]), (1, some (qQ jY (List.map uJ L))), (2, some (bx (jY (uJ u)))), (3, some (bx (jY (uJ v)))), (4, some (bx (jQ (uR (uD u.v v.v))) ++ [(.own 5 61 8 0), (.own 6 86 1 0)])), (5, some (qQ jQ [])), (6, some (bm uV []))])) ?_
 refine kx [(26, (jN n)), (27, (jN 0))] [] (zM<|zE oNc<|zE (qD fo161_0)<|zR (uL yV)<|zM<|zZ) ?_
 refine jG<|kI (α := Nat × List kR) (fun (i, gl) => ⟨[(0, (.ref 0 0)), (1, (.clo 195 [2, 3])), (2, (.clo 197 [2, 3])), (3, (.clo 198 [2, 3])), (8, (.ref 4 0)), (26, (jN n)), (27, (jN i))], [(0, some [(jN n), (jN 1), (vi (-1)), (.own 1 95 10 ((List.map uJ L).length)), (vb false)]), (1, some (qQ jY (List.map uJ L))), (2, some (bx (jY (uJ u)))), (3, some (bx (jY (uJ v)))), (4, some (bx (jQ (uR (uD u.v v.v))) ++ [(.own 5 61 8 gl.length), (.own 6 86 1 0)])), (5, some (qQ jQ gl)), (6, some (bm uV []))]⟩) (fun (i, gl) => i ≤ n ∧ gl = List.map uR (List.map (fun (i : Nat) => (mL (uD u.v (v.g.getD i z2)) (uD v.v (u.g.getD i z2)))) (List.range i))) (fun (i, gl) => n - i) (0, []) wk ⟨Nat.zero_le _, rfl⟩ ?_
 rintro ⟨i, gl⟩ ⟨hi, hg⟩
 have hgl : gl.length = i := jk_len (G := (fun (i : Nat) => (mL (uD u.v (v.g.getD i z2)) (uD v.v (u.g.getD i z2))))) hg
 refine jB<|kx [(28, (vb (decide (((i : Nat) : Int) < ((n : Nat) : Int)))))] [] (zE vZ<|zZ) ?_
 refine jB<|jF rfl (fun h1 => ?_) (fun h1 => ?_)
 ·replace h1 := uH h1
  refine jD<|jB<|jG<|jB<|kx [(9, (jN i))] [] (zM<|zM<|zZ) ?_
  refine kd [] [(4, some (bx (jQ (uR (uD u.v v.v))) ++ [(.own 7 61 8 ((gl ++ [(uR (mL (uD u.v (v.g.getD i z2)) (uD v.v (u.g.getD i z2))))]).length)), (.own 6 86 1 0)])), (7, some (qQ jQ (gl ++ [(uR (mL (uD u.v (v.g.getD i z2)) (uD v.v (u.g.getD i z2))))]))), (5, none)] mo (wE (qD fo95_1)<|wR (uL sh86)<|wM<|wM<|wM<|wC (oCh [(3, (bx (jY (uJ v))), (kA.cells (jY (uJ v)))), (2, (bx (jY (uJ u))), (kA.cells (jY (uJ u)))), (4, (bx (jQ (uR (uD u.v v.v))) ++ [(.own 5 61 8 gl.length), (.own 6 86 1 0)]), (kA.cells (.agg (kA.cells (jQ (uR (uD u.v v.v))) ++ [(.sl 1000000 8 (List.map jQ gl)), (.sl 1000000 1 (List.map uV []))])))), (6, (bm uV []), (flat (List.map uV []))), (5, (qQ jQ gl), (flat (List.map jQ gl)))] [(.ref 4 0), (jN i), .ref 2 0, .ref 3 0] (j_gM (.cptr 1000000 (kA.cells (.agg (kA.cells (jQ (uR (uD u.v v.v))) ++ [(.sl 1000000 8 (List.map jQ gl)), (.sl 1000000 1 (List.map uV []))]))) 0) i n u hu v hv (by omega)) (.cons (.r (.tail _ (.tail _ (.head _)))) (.cons .d (.cons (.r (.tail _ (.head _))) (.cons (.r (.head _)) .nil)))) (.cons (.all rfl) (.cons (.all rfl) (.cons (.cons .d (.cons .d (.cons .d (.cons .d (.cons .d (.cons .d (.cons .d (.cons .d (.cons (fL (F := jQ) (L := gl) (.tail _ (.head _)) (fun _ => rfl) rfl) (.cons (fL (F := uV) (L := []) (.head _) (fun _ => rfl) rfl) .nil)))))))))) (.cons (sees_bm (fun _ => rfl)) (.cons (.all (by exact rfl)) .nil))))) (dN (by decide) _) (ex := [.ref 2 0, .ref 3 0]) (hy := .clo (kk := [2, 3]) (by kernel_rfl) (by kernel_rfl)))<|wC (oCh [(0, [(jN n), (jN 1), (vi (-1)), (.own 1 95 10 ((List.map uJ L).length)), (vb false)], (kA.cells (.agg [(.val (.int .i64 (((n : Nat) : Int)))), (.val (.int .i64 (((1 : Nat) : Int)))), (.val (.int .i64 (-1))), (.sl 1000000 10 (List.map jY (List.map uJ L))), (.val (.bool (false)))]))), (1, (qQ jY (List.map uJ L)), (flat (List.map jY (List.map uJ L))))] [(.ref 0 0), (.d (jQ (uR (mL (uD u.v (v.g.getD i z2)) (uD v.v (u.g.getD i z2))))))] (j_round n (.sl 1000000 10 (List.map jY (List.map uJ L))) (mL (uD u.v (v.g.getD i z2)) (uD v.v (u.g.getD i z2))) (gl_up (gl_add (k := 4194305) (gl_mul (k := 2097152) hu.1 (aC hv.2.1 (by decide) i) (by decide)) (gl_mul (k := 2097152) hv.1 (aC hu.2.1 (by decide) i) (by decide)) (by decide)) (by decide))) (.cons (.r (.head _)) (.cons .d .nil)) (.cons (.cons .d (.cons .d (.cons .d (.cons (fL (F := jY) (L := (List.map uJ L)) (.head _) (fun _ => rfl) rfl) (.cons .d .nil))))) (.cons (.all (by exact rfl)) .nil)) (dN (by decide) _) (ex := []))<|wE (gN fH xY yC)<|wAS (k := 5) 7 jQ gl [(uR (mL (uD u.v (v.g.getD i z2)) (uD v.v (u.g.getD i z2))))] rfl fH xY by61<|wE (qD fo95_1)<|wT (oSx sh86)<|wZ) ?_
  refine kH (wk (l := [(0, (.ref 0 0)), (1, (.clo 195 [2, 3])), (2, (.clo 197 [2, 3])), (3, (.clo 198 [2, 3])), (8, (.ref 4 0)), (26, (jN n)), (27, (jN i))]) (b := [(0, some [(jN n), (jN 1), (vi (-1)), (.own 1 95 10 ((List.map uJ L).length)), (vb false)]), (1, some (qQ jY (List.map uJ L))), (2, some (bx (jY (uJ u)))), (3, some (bx (jY (uJ v)))), (4, some (bx (jQ (uR (uD u.v v.v))) ++ [(.own 7 61 8 ((gl ++ [(uR (mL (uD u.v (v.g.getD i z2)) (uD v.v (u.g.getD i z2))))]).length)), (.own 6 86 1 0)])), (6, some (bm uV [])), (7, some (qQ jQ (gl ++ [(uR (mL (uD u.v (v.g.getD i z2)) (uD v.v (u.g.getD i z2))))])))])) ?_
  refine kH (sim_ren2 (S' := [(0, (.ref 0 0)), (1, (.clo 195 [2, 3])), (2, (.clo 197 [2, 3])), (3, (.clo 198 [2, 3])), (8, (.ref 4 0)), (26, (jN n)), (27, (jN i))]) (B' := [(0, some [(jN n), (jN 1), (vi (-1)), (.own 1 95 10 ((List.map uJ L).length)), (vb false)]), (1, some (qQ jY (List.map uJ L))), (2, some (bx (jY (uJ u)))), (3, some (bx (jY (uJ v)))), (4, some (bx (jQ (uR (uD u.v v.v))) ++ [(.own 5 61 8 ((gl ++ [(uR (mL (uD u.v (v.g.getD i z2)) (uD v.v (u.g.getD i z2))))]).length)), (.own 6 86 1 0)])), (5, some (qQ jQ (gl ++ [(uR (mL (uD u.v (v.g.getD i z2)) (uD v.v (u.g.getD i z2))))]))), (6, some (bm uV []))]) 5 7 4) ?_
  refine kx [(27, (jN (i + 1)))] [] (zE (vG (i + 1))<|zM<|zZ) ?_
  exact ⟨(i + 1, gl ++ [uR (mL (uD u.v (v.g.getD i z2)) (uD v.v (u.g.getD i z2)))]), wk, ⟨by omega, jk_push (G := (fun (i : Nat) => (mL (uD u.v (v.g.getD i z2)) (uD v.v (u.g.getD i z2))))) hg⟩, (by first|omega|(dsimp only;omega))⟩
 ·replace h1 := vB h1
  refine kC<|jB<|jB<|kx [(45, (vb false))] [] (zM<|zE oNc<|zE (qD fo161_1)<|zR (uL yV)<|zE (xL false mO)<|zZ) ?_
  refine kZ ?_
  refine jD<|kH (cX (j := 4) (k := 5) (pre := (bx (jQ (uR (uD u.v v.v))))) (post := [(.own 6 86 1 0)]) (es := List.map jQ gl) rfl (by decide) rfl (zI _ _ (fun _ => rfl)) (uG _ _ rfl) (yW jQ gl (fun _ => rfl) rfl)) ?_
  refine kH (wk (l := [(0, (.ref 0 0)), (1, (.clo 195 [2, 3])), (2, (.clo 197 [2, 3])), (3, (.clo 198 [2, 3])), (8, (.ref 4 0)), (45, (vb false))]) (b := [(0, some [(jN n), (jN 1), (vi (-1)), (.own 1 95 10 ((List.map uJ L).length)), (vb false)]), (1, some (qQ jY (List.map uJ L))), (2, some (bx (jY (uJ u)))), (3, some (bx (jY (uJ v)))), (4, some (bx (jQ (uR (uD u.v v.v))) ++ [(vl 61 8 jQ gl), (.own 6 86 1 0)])), (6, some (bm uV []))])) ?_
  refine kH (cX (j := 4) (k := 6) (pre := (bx (jQ (uR (uD u.v v.v))) ++ [(vl 61 8 jQ gl)])) (post := []) (es := List.map uV []) rfl (by decide) rfl (uI _ _ (fun _ => rfl)) (uG _ _ rfl) (vE _ _ (fun _ => rfl) rfl)) ?_
  refine kH (wk (l := [(0, (.ref 0 0)), (1, (.clo 195 [2, 3])), (2, (.clo 197 [2, 3])), (3, (.clo 198 [2, 3])), (8, (.ref 4 0)), (45, (vb false))]) (b := [(0, some [(jN n), (jN 1), (vi (-1)), (.own 1 95 10 ((List.map uJ L).length)), (vb false)]), (1, some (qQ jY (List.map uJ L))), (2, some (bx (jY (uJ u)))), (3, some (bx (jY (uJ v)))), (4, some (bx (jY (dK.mk (uR (uD u.v v.v)) gl []))))])) ?_
  refine kd [] [(0, some [(jN n), (jN 1), (vi (-1)), (.own 8 95 10 (((List.map uJ L) ++ [(dK.mk (uR (uD u.v v.v)) gl [])]).length)), (vb false)]), (8, some (qQ jY ((List.map uJ L) ++ [(dK.mk (uR (uD u.v v.v)) gl [])]))), (1, none)] mo (wM<|wM<|wE oNc<|wE (qD fZ)<|wR (uL sh143)<|wR (kP sh95)<|wE (gN el143 ze95 zo95)<|wAS (k := 1) 8 jY (List.map uJ L) [(dK.mk (uR (uD u.v v.v)) gl [])] rfl el143 ze95 by95<|wE oNc<|wE (qD fZ)<|wT (oSx sh143)<|wZ) ?_
  have hJ : List.map uJ (L ++ [(jk (uD u.v v.v) (fun i => (mL (uD u.v (v.g.getD i z2)) (uD v.v (u.g.getD i z2)))) n)]) = List.map uJ L ++ [dK.mk (uR (uD u.v v.v)) gl []] := by rw [List.map_append, hg, show i = n by omega]; rfl
  rw [hJ]
  refine ⟨nZ (by kernel_rfl), dB (by kernel_rfl), .inl ⟨_, .nil, ?_⟩⟩
  rfl
theorem sh159 : qL Tryz.prog 159 = some (false, 1) := by kernel_rfl
end Go.Proofs.YtnajallgoaiahaaGreatDoor
