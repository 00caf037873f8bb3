/- Part 38 of a proof: rules, plain facts, and functions walked. -/
import Derived.Test.YtnajallgoaiahaaGreatDoorM37
import Derived.Test.YtnajallgoaiahaaGreatDoorM36
namespace Go.Proofs.YtnajallgoaiahaaGreatDoor
open Go.Fid
set_option maxRecDepth 4000
set_option linter.unusedVariables false
set_option linter.unusedSimpArgs false
theorem ar103 : arrB Tryz.prog 103 = some (3, 59, 2) := by kernel_rfl
theorem ar107 : arrB Tryz.prog 107 = some (9, 106, 1) := by kernel_rfl
theorem cb10 : callB Tryz.prog 10 = true := by kernel_rfl
theorem mE : vR Tryz.prog 105 0 = some 0 := by kernel_rfl
theorem mY : vR Tryz.prog 105 1 = some 1 := by kernel_rfl
theorem fo105_2 : vR Tryz.prog 105 2 = some 2 := by kernel_rfl
theorem fo105_3 : vR Tryz.prog 105 3 = some 3 := by kernel_rfl
theorem sh59 : qL Tryz.prog 59 = some (true, 2) := by kernel_rfl
theorem sh106 : qL Tryz.prog 106 = some (false, 1) := by kernel_rfl
theorem sh107 : qL Tryz.prog 107 = some (true, 9) := by kernel_rfl
theorem un106 : (Tryz.prog.underlying 106).isSome = true := by kernel_rfl
theorem ze59 : xH Tryz.prog 59 = some [.int .i64 0, .int .i64 0] := by kernel_rfl
theorem zo59 : eC [.int .i64 0, .int .i64 0] [.val (.int .i64 0), .val (.int .i64 0)] := by simp [eC, Value.oneCell']
set_option maxHeartbeats 1000000 in
theorem w_tm (x : RPlc) (v : A9 Int) (hv0 : -32768 ≤ v.a0 ∧ v.a0 ≤ 32767) (hv1 : -32768 ≤ v.a1 ∧ v.a1 ≤ 32767) (hv2 : -32768 ≤ v.a2 ∧ v.a2 ≤ 32767) (hv3 : -32768 ≤ v.a3 ∧ v.a3 ≤ 32767) (hv4 : -32768 ≤ v.a4 ∧ v.a4 ≤ 32767) (hv5 : -32768 ≤ v.a5 ∧ v.a5 ≤ 32767) (hv6 : -32768 ≤ v.a6 ∧ v.a6 ≤ 32767) (hv7 : -32768 ≤ v.a7 ∧ v.a7 ≤ 32767) (hv8 : -32768 ≤ v.a8 ∧ v.a8 ≤ 32767) (hxa : x.a.length ≤ 140737488355328) (hxb : x.b.length ≤ 140737488355328) (hxc : x.c.length ≤ 140737488355328) : jT Tryz.prog 10 [(cQ x), (eD v)] (.val (.bool (true))) := by
 have hl6 : [x.a, x.b, x.c, [x.flat.a0.a0, x.flat.a0.a1], [x.flat.a1.a0, x.flat.a1.a1], [x.flat.a2.a0, x.flat.a2.a1]].length = 6 := rfl
 have hxq : ∀ q ∈ (zQ [v.a0, v.a1, v.a2, v.a3, v.a4, v.a5, v.a6, v.a7, v.a8]), QL q 3 := zQ_ql (by intro z hz; simp only [List.mem_cons, List.not_mem_nil, or_false] at hz; omega)
 let y45 := (jM ((v.a5 : Int) : Rat))
 let y44 := (jM ((v.a4 : Int) : Rat))
 let y43 := (jM ((v.a3 : Int) : Rat))
 let y42 := (jM ((v.a2 : Int) : Rat))
 let y41 := (jM ((v.a1 : Int) : Rat))
 let y40 := (jM ((v.a0 : Int) : Rat))
 let y39 := [y40, y41]
 let y38 := (zQ [v.a0, v.a1, v.a2, v.a3, v.a4, v.a5, v.a6, v.a7, v.a8])
 let y37 := (cJ y38 x.a x.c)
 let y36 := (cJ y38 x.a x.b)
 let y35 := (fX y38 (dstT x.a x.b))
 let y34 := [y40, y41, y42]
 let y33 := (fX y38 (cosT x.a x.b x.c))
 let y32 := (jM y35)
 let y31 := (jM y33)
 let y30 := (areT [x.flat.a0.a0, x.flat.a0.a1] [x.flat.a1.a0, x.flat.a1.a1] [x.flat.a2.a0, x.flat.a2.a1])
 let y29 := [y40, y41, y42, y43]
 let y28 := (cJ y38 [x.flat.a0.a0, x.flat.a0.a1] [x.flat.a2.a0, x.flat.a2.a1])
 let y27 := (cJ y38 [x.flat.a0.a0, x.flat.a0.a1] [x.flat.a1.a0, x.flat.a1.a1])
 let y26 := (y28.getD 0 0)
 let y25 := (y27.getD 1 0)
 let y24 := (y28.getD 1 0)
 let y23 := (y27.getD 0 0)
 let y22 := [y40, y41, y42, y43, y44]
 let y21 := (fX y38 y30)
 let y20 := (jM y21)
 let y19 := [y40, y41, y42, y43, y44, y45]
 let y18 := [y40, y41, y42, y43, y44, y45, (jM ((v.a6 : Int) : Rat))]
 let y17 := [y40, y41, y42, y43, y44, y45, (jM ((v.a6 : Int) : Rat)), (jM ((v.a7 : Int) : Rat))]
 let y16 := (dtV y37 y37 y37.length)
 let y15 := (dtV y36 y36 y36.length)
 let y14 := (dtV y36 y37 y36.length)
 let y13 := (jM y16)
 let y12 := (jM y15)
 let y11 := (jM y14)
 let y10 := [y40, y41, y42, y43, y44, y45, (jM ((v.a6 : Int) : Rat)), (jM ((v.a7 : Int) : Rat)), (jM ((v.a8 : Int) : Rat))]
 let y9 := (y25 * y26)
 let y8 := (y23 * y24)
 let y7 := (y15 * y16)
 let y6 := (y14 * y14)
 let y5 := (jM y7)
 let y4 := (jM y6)
 let y3 := (y8 - y9)
 let y2 := (y6 / y7)
 let y1 := (jM y2)
 refine jJ Tryz.func10 rfl cb10 rfl ?_
 show qR _ _ _ _ ⟨[(0, (.d (cQ x))), (1, (.d (eD v)))], []⟩
 refine jB<|kx [(2, (.ref 0 0)), (3, (.ref 1 0))] [(0, some (bx (cQ x))), (1, some (bx (eD v)))] (zN (xA 0)<|zN (xA 1)<|zM<|zZ) ?_
 refine jB<|jB<|kx [(34, (vb false))] [] (zE (jZ p_known)<|zE fC<|zZ) ?_
 refine kZ ?_
 refine jD<|jB<|kx [(5, (.own 2 45 4 0))] [(2, some (qQ jH []))] (zN (oBo 2 qN qA qO)<|zM<|zZ) ?_
 refine jB<|jB<|kx [(36, (.d (eD v))), (37, (jN 0))] [] (zR (kP sh107)<|zM<|zZ) ?_
 refine jG<|pwp_rounds 10 ?_
 refine pwp_round<|jB<|kx [(38, (vb true))] [] (zE (xL true vZ)<|zZ) ?_
 refine jB<|xD ?_
 refine jD<|jB<|jG<|jB<|kx [(7, (.d (.val (.int .i16 (v.a0)))))] [] (zE (oXa ar107 sh106 (fun _ => rfl) 0)<|zM<|zZ) ?_
 refine kf [(5, (.own 2 45 4 ([y40].length)))] [(2, some (qQ jH [y40]))] (zM<|zM<|zE (zCv un106 in3 v.a0)<|zE (jZ (zV v.a0 (by omega) (by omega)))<|zE (gN qN qA qO)<|zAS jH [] [y40] rfl qN qA fF (hbig := by exact (nK rfl)) (hbig' := by exact (nK rfl))<|zM<|zF) ?_
 refine kx [(37, (jN 1))] [] (zE (vG 1 (hr := by decide))<|zM<|zZ) ?_
 refine yI (uK.refl _) ?_
 refine jB<|kx [(38, (vb true))] [] (zE (xL true vZ)<|zZ) ?_
 refine jB<|xD ?_
 refine jD<|jB<|jG<|jB<|kx [(7, (.d (.val (.int .i16 (v.a1)))))] [] (zE (oXa ar107 sh106 (fun _ => rfl) 1)<|zM<|zZ) ?_
 refine kf [(5, (.own 2 45 4 (y39.length)))] [(2, some (qQ jH y39))] (zM<|zM<|zE (zCv un106 in3 v.a1)<|zE (jZ (zV v.a1 (by omega) (by omega)))<|zE (gN qN qA qO)<|zAS jH [y40] [y41] rfl qN qA fF (hbig := by exact (nK rfl)) (hbig' := by exact (nK rfl))<|zM<|zF) ?_
 refine kx [(37, (jN 2))] [] (zE (vG 2 (hr := by decide))<|zM<|zZ) ?_
 refine yI (uK.refl _) ?_
 refine jB<|kx [(38, (vb true))] [] (zE (xL true vZ)<|zZ) ?_
 refine jB<|xD ?_
 refine jD<|jB<|jG<|jB<|kx [(7, (.d (.val (.int .i16 (v.a2)))))] [] (zE (oXa ar107 sh106 (fun _ => rfl) 2)<|zM<|zZ) ?_
 refine kH (wk (l := [(2, (.ref 0 0)), (5, (.own 2 45 4 (y39.length))), (7, (.d (.val (.int .i16 (v.a2))))), (36, (.d (eD v))), (37, (jN 2))]) (b := [(0, some (bx (cQ x))), (2, some (qQ jH y39))])) ?_
 refine kf [(5, (.own 2 45 4 (y34.length)))] [(2, some (qQ jH y34))] (zM<|zM<|zE (zCv un106 in3 v.a2)<|zE (jZ (zV v.a2 (by omega) (by omega)))<|zE (gN qN qA qO)<|zAS jH y39 [y42] rfl qN qA fF (hbig := by exact (nK rfl)) (hbig' := by exact (nK rfl))<|zM<|zF) ?_
 refine kx [(37, (jN 3))] [] (zE (vG 3 (hr := by decide))<|zM<|zZ) ?_
 refine yI (uK.refl _) ?_
 refine jB<|kx [(38, (vb true))] [] (zE (xL true vZ)<|zZ) ?_
 refine jB<|xD ?_
 refine jD<|jB<|jG<|jB<|kx [(7, (.d (.val (.int .i16 (v.a3)))))] [] (zE (oXa ar107 sh106 (fun _ => rfl) 3)<|zM<|zZ) ?_
 refine kf [(5, (.own 2 45 4 (y29.length)))] [(2, some (qQ jH y29))] (zM<|zM<|zE (zCv un106 in3 v.a3)<|zE (jZ (zV v.a3 (by omega) (by omega)))<|zE (gN qN qA qO)<|zAS jH y34 [y43] rfl qN qA fF (hbig := by exact (nK rfl)) (hbig' := by exact (nK rfl))<|zM<|zF) ?_
 refine kx [(37, (jN 4))] [] (zE (vG 4 (hr := by decide))<|zM<|zZ) ?_
 refine yI (uK.refl _) ?_
 refine jB<|kx [(38, (vb true))] [] (zE (xL true vZ)<|zZ) ?_
 refine jB<|xD ?_
 refine jD<|jB<|jG<|jB<|kx [(7, (.d (.val (.int .i16 (v.a4)))))] [] (zE (oXa ar107 sh106 (fun _ => rfl) 4)<|zM<|zZ) ?_
 refine kf [(5, (.own 2 45 4 (y22.length)))] [(2, some (qQ jH y22))] (zM<|zM<|zE (zCv un106 in3 v.a4)<|zE (jZ (zV v.a4 (by omega) (by omega)))<|zE (gN qN qA qO)<|zAS jH y29 [y44] rfl qN qA fF (hbig := by exact (nK rfl)) (hbig' := by exact (nK rfl))<|zM<|zF) ?_
 refine kx [(37, (jN 5))] [] (zE (vG 5 (hr := by decide))<|zM<|zZ) ?_
 refine yI (uK.refl _) ?_
 refine jB<|kx [(38, (vb true))] [] (zE (xL true vZ)<|zZ) ?_
 refine jB<|xD ?_
 refine jD<|jB<|jG<|jB<|kx [(7, (.d (.val (.int .i16 (v.a5)))))] [] (zE (oXa ar107 sh106 (fun _ => rfl) 5)<|zM<|zZ) ?_
 refine kf [(5, (.own 2 45 4 (y19.length)))] [(2, some (qQ jH y19))] (zM<|zM<|zE (zCv un106 in3 v.a5)<|zE (jZ (zV v.a5 (by omega) (by omega)))<|zE (gN qN qA qO)<|zAS jH y22 [y45] rfl qN qA fF (hbig := by exact (nK rfl)) (hbig' := by exact (nK rfl))<|zM<|zF) ?_
 refine kx [(37, (jN 6))] [] (zE (vG 6 (hr := by decide))<|zM<|zZ) ?_
 refine yI (uK.refl _) ?_
 refine jB<|kH (wk (l := [(2, (.ref 0 0)), (5, (.own 2 45 4 (y19.length))), (36, (.d (eD v))), (37, (jN 6))]) (b := [(0, some (bx (cQ x))), (2, some (qQ jH y19))])) ?_
 refine kx [(38, (vb true))] [] (zE (xL true vZ)<|zZ) ?_
 refine jB<|xD ?_
 refine jD<|jB<|jG<|jB<|kx [(7, (.d (.val (.int .i16 (v.a6)))))] [] (zE (oXa ar107 sh106 (fun _ => rfl) 6)<|zM<|zZ) ?_
 refine kf [(5, (.own 2 45 4 (y18.length)))] [(2, some (qQ jH y18))] (zM<|zM<|zE (zCv un106 in3 v.a6)<|zE (jZ (zV v.a6 (by omega) (by omega)))<|zE (gN qN qA qO)<|zAS jH y19 [(jM ((v.a6 : Int) : Rat))] rfl qN qA fF (hbig := by exact (nK rfl)) (hbig' := by exact (nK rfl))<|zM<|zF) ?_
 refine kx [(37, (jN 7))] [] (zE (vG 7 (hr := by decide))<|zM<|zZ) ?_
 refine yI (uK.refl _) ?_
 refine jB<|kx [(38, (vb true))] [] (zE (xL true vZ)<|zZ) ?_
 refine jB<|xD ?_
 refine jD<|jB<|jG<|jB<|kx [(7, (.d (.val (.int .i16 (v.a7)))))] [] (zE (oXa ar107 sh106 (fun _ => rfl) 7)<|zM<|zZ) ?_
 refine kf [(5, (.own 2 45 4 (y17.length)))] [(2, some (qQ jH y17))] (zM<|zM<|zE (zCv un106 in3 v.a7)<|zE (jZ (zV v.a7 (by omega) (by omega)))<|zE (gN qN qA qO)<|zAS jH y18 [(jM ((v.a7 : Int) : Rat))] rfl qN qA fF (hbig := by exact (nK rfl)) (hbig' := by exact (nK rfl))<|zM<|zF) ?_
 refine kx [(37, (jN 8))] [] (zE (vG 8 (hr := by decide))<|zM<|zZ) ?_
 refine yI (uK.refl _) ?_
 refine jB<|kx [(38, (vb true))] [] (zE (xL true vZ)<|zZ) ?_
 refine jB<|xD ?_
 refine jD<|jB<|jG<|jB<|kx [(7, (.d (.val (.int .i16 (v.a8)))))] [] (zE (oXa ar107 sh106 (fun _ => rfl) 8)<|zM<|zZ) ?_
 refine kf [(5, (.own 2 45 4 (y10.length)))] [(2, some (qQ jH y10))] (zM<|zM<|zE (zCv un106 in3 v.a8)<|zE (jZ (zV v.a8 (by omega) (by omega)))<|zE (gN qN qA qO)<|zAS jH y17 [(jM ((v.a8 : Int) : Rat))] rfl qN qA fF (hbig := by exact (nK rfl)) (hbig' := by exact (nK rfl))<|zM<|zF) ?_
 refine kx [(37, (jN 9))] [] (zE (vG 9 (hr := by decide))<|zM<|zZ) ?_
 refine yI (uK.refl _) ?_
 refine jB<|kx [(38, (vb false))] [] (zE (xL false vZ)<|zZ) ?_
 refine jB<|kZ ?_
 refine kC<|jB<|jB<|kH (wk (l := [(2, (.ref 0 0)), (5, (.own 2 45 4 ((List.map jM y38).length))), (36, (.d (eD v))), (37, (jN 9)), (38, (vb false))]) (b := [(0, some (bx (cQ x))), (2, some (qQ jH (List.map jM y38)))])) ?_
 refine kH (vK (t := 5) (k := 2) (es := List.map jH (List.map jM y38)) rfl rfl (zI _ _ (fun _ => rfl)) (uG _ _ rfl) (yW jH (List.map jM y38) (fun _ => rfl) rfl)) ?_
 refine kH (gH (t := 2) (k := 0) (o := 0) (T := 3) (cs := (kA.cells (cQ x))) rfl rfl) ?_
 refine kd [(62, (vl 102 1 qX [x.a, x.b, x.c, [x.flat.a0.a0, x.flat.a0.a1], [x.flat.a1.a0, x.flat.a1.a1], [x.flat.a2.a0, x.flat.a2.a1]])), (63, (jN 6)), (64, (jN 0))] [] mo (wE (fW mE)<|wE (xI xG)<|wE (fW mY)<|wE (xI xG)<|wE (fW fo105_2)<|wE (xI xG)<|wE (fW fo105_3)<|wE (oXc ar103 0)<|wE (yL (es := List.map jI [x.flat.a0.a0, x.flat.a0.a1]) (by exact rfl) eZ (by exact rfl) (by kernel_rfl) (by kernel_rfl) (by kernel_rfl) (by kernel_rfl) (by kernel_rfl) (by kernel_rfl))<|wE (fW fo105_3)<|wE (oXc ar103 1)<|wE (yL (es := List.map jI [x.flat.a1.a0, x.flat.a1.a1]) (by exact rfl) eZ (by exact rfl) (by kernel_rfl) (by kernel_rfl) (by kernel_rfl) (by kernel_rfl) (by kernel_rfl) (by kernel_rfl))<|wE (fW fo105_3)<|wE (oXc ar103 2)<|wE (yL (es := List.map jI [x.flat.a2.a0, x.flat.a2.a1]) (by exact rfl) eZ (by exact rfl) (by kernel_rfl) (by kernel_rfl) (by kernel_rfl) (by kernel_rfl) (by kernel_rfl) (by kernel_rfl))<|wE (gN yK aV aX)<|wE (oLn yK 6)<|wM<|wZ) ?_
 refine jG<|kI (α := Nat) (fun k => ⟨[(2, (.d (.cptr 3 (kA.cells (cQ x)) 0))), (5, (vl 45 4 jH (List.map jM y38))), (62, (vl 102 1 qX [x.a, x.b, x.c, [x.flat.a0.a0, x.flat.a0.a1], [x.flat.a1.a0, x.flat.a1.a1], [x.flat.a2.a0, x.flat.a2.a1]])), (63, (jN 6)), (64, (jN k))], []⟩) (fun k => k ≤ [x.a, x.b, x.c, [x.flat.a0.a0, x.flat.a0.a1], [x.flat.a1.a0, x.flat.a1.a1], [x.flat.a2.a0, x.flat.a2.a1]].length ∧ ([x.a, x.b, x.c, [x.flat.a0.a0, x.flat.a0.a1], [x.flat.a1.a0, x.flat.a1.a1], [x.flat.a2.a0, x.flat.a2.a1]].take k).any lmB = false) (fun k => [x.a, x.b, x.c, [x.flat.a0.a0, x.flat.a0.a1], [x.flat.a1.a0, x.flat.a1.a1], [x.flat.a2.a0, x.flat.a2.a1]].length - k) 0 wk ⟨Nat.zero_le _, rfl⟩ ?_
 rintro k ⟨hk, hal⟩
 refine jB<|kx [(65, (vb (decide (((k : Nat) : Int) < ((6 : Nat) : Int)))))] [] (zE vZ<|zZ) ?_
 refine jB<|jF rfl (fun h1 => ?_) (fun h1 => ?_)
 ·replace h1 := uH h1
  refine jD<|jB<|jG<|jB<|kx [(9, (vl 3 1 jI ([x.a, x.b, x.c, [x.flat.a0.a0, x.flat.a0.a1], [x.flat.a1.a0, x.flat.a1.a1], [x.flat.a2.a0, x.flat.a2.a1]].getD k [])))] [] (zE (zU yK k ([] : List (Int)) (L := [x.a, x.b, x.c, [x.flat.a0.a0, x.flat.a0.a1], [x.flat.a1.a0, x.flat.a1.a1], [x.flat.a2.a0, x.flat.a2.a1]]) (hj := by first | omega | exact dU (nK rfl)) (h1 := by first | omega | exact dU (nK rfl)))<|zE (xI xG)<|zM<|zZ) ?_
  refine jB<|jB<|kx [(70, (vb (decide (((5 : Nat) : Int) < ((([x.a, x.b, x.c, [x.flat.a0.a0, x.flat.a0.a1], [x.flat.a1.a0, x.flat.a1.a1], [x.flat.a2.a0, x.flat.a2.a1]].getD k []).length : Nat) : Int)))))] [] (zM<|zE (vX qP (L := ([x.a, x.b, x.c, [x.flat.a0.a0, x.flat.a0.a1], [x.flat.a1.a0, x.flat.a1.a1], [x.flat.a2.a0, x.flat.a2.a1]].getD k [])))<|zE mO<|zZ) ?_
  refine jF rfl (fun h2 => ?_) (fun h2 => ?_)
  ·replace h2 := uH h2
   refine jB<|kx [(4, (vb true))] [] (zM<|zZ) ?_
   refine jE ⟨_, (.tmp (d := (.val (.bool (true)))) rfl .nil), ?_⟩
   rfl
  ·replace h2 := vB h2
   have h5 := h2
   refine jD<|jB<|kx [(71, (vl 3 1 jI ([x.a, x.b, x.c, [x.flat.a0.a0, x.flat.a0.a1], [x.flat.a1.a0, x.flat.a1.a1], [x.flat.a2.a0, x.flat.a2.a1]].getD k []))), (72, (jN (([x.a, x.b, x.c, [x.flat.a0.a0, x.flat.a0.a1], [x.flat.a1.a0, x.flat.a1.a1], [x.flat.a2.a0, x.flat.a2.a1]].getD k []).length))), (73, (jN 0))] [] (zM<|zE (vX qP (L := ([x.a, x.b, x.c, [x.flat.a0.a0, x.flat.a0.a1], [x.flat.a1.a0, x.flat.a1.a1], [x.flat.a2.a0, x.flat.a2.a1]].getD k [])))<|zM<|zZ) ?_
   refine jG<|kI (α := Nat) (fun j => ⟨[(2, (.d (.cptr 3 (kA.cells (cQ x)) 0))), (5, (vl 45 4 jH (List.map jM y38))), (62, (vl 102 1 qX [x.a, x.b, x.c, [x.flat.a0.a0, x.flat.a0.a1], [x.flat.a1.a0, x.flat.a1.a1], [x.flat.a2.a0, x.flat.a2.a1]])), (63, (jN 6)), (64, (jN k)), (71, (vl 3 1 jI ([x.a, x.b, x.c, [x.flat.a0.a0, x.flat.a0.a1], [x.flat.a1.a0, x.flat.a1.a1], [x.flat.a2.a0, x.flat.a2.a1]].getD k []))), (72, (jN (([x.a, x.b, x.c, [x.flat.a0.a0, x.flat.a0.a1], [x.flat.a1.a0, x.flat.a1.a1], [x.flat.a2.a0, x.flat.a2.a1]].getD k []).length))), (73, (jN j))], []⟩) (fun j => j ≤ ([x.a, x.b, x.c, [x.flat.a0.a0, x.flat.a0.a1], [x.flat.a1.a0, x.flat.a1.a1], [x.flat.a2.a0, x.flat.a2.a1]].getD k []).length ∧ (([x.a, x.b, x.c, [x.flat.a0.a0, x.flat.a0.a1], [x.flat.a1.a0, x.flat.a1.a1], [x.flat.a2.a0, x.flat.a2.a1]].getD k []).take j).any bdK = false) (fun j => ([x.a, x.b, x.c, [x.flat.a0.a0, x.flat.a0.a1], [x.flat.a1.a0, x.flat.a1.a1], [x.flat.a2.a0, x.flat.a2.a1]].getD k []).length - j) 0 wk ⟨Nat.zero_le _, by simp⟩ ?_
   rintro j ⟨hj, hal2⟩
   refine jB<|kx [(74, (vb (decide (((j : Nat) : Int) < ((([x.a, x.b, x.c, [x.flat.a0.a0, x.flat.a0.a1], [x.flat.a1.a0, x.flat.a1.a1], [x.flat.a2.a0, x.flat.a2.a1]].getD k []).length : Nat) : Int)))))] [] (zE vZ<|zZ) ?_
   refine jB<|jF rfl (fun h3 => ?_) (fun h3 => ?_)
   ·replace h3 := uH h3
    refine jD<|jB<|jG<|jB<|kx [(11, (vi (([x.a, x.b, x.c, [x.flat.a0.a0, x.flat.a0.a1], [x.flat.a1.a0, x.flat.a1.a1], [x.flat.a2.a0, x.flat.a2.a1]].getD k []).getD j 0)))] [] (zE (zU qP j (0 : Int) (L := ([x.a, x.b, x.c, [x.flat.a0.a0, x.flat.a0.a1], [x.flat.a1.a0, x.flat.a1.a1], [x.flat.a2.a0, x.flat.a2.a1]].getD k [])) (hj := by first | omega | exact dU (nK rfl)) (h1 := by first | omega | exact dU (nK rfl)))<|zE (xI yV)<|zM<|zZ) ?_
    refine jB<|kx [(82, (vb (decide (((8 : Nat) : Int) < (([x.a, x.b, x.c, [x.flat.a0.a0, x.flat.a0.a1], [x.flat.a1.a0, x.flat.a1.a1], [x.flat.a2.a0, x.flat.a2.a1]].getD k []).getD j 0)) && decide ((([x.a, x.b, x.c, [x.flat.a0.a0, x.flat.a0.a1], [x.flat.a1.a0, x.flat.a1.a1], [x.flat.a2.a0, x.flat.a2.a1]].getD k []).getD j 0) < ((64 : Nat) : Int)))))] [] ?_ ?_
    ·refine zM<|zE mO<|zE (oV (vb (decide (((8 : Nat) : Int) < (([x.a, x.b, x.c, [x.flat.a0.a0, x.flat.a0.a1], [x.flat.a1.a0, x.flat.a1.a1], [x.flat.a2.a0, x.flat.a2.a1]].getD k []).getD j 0)))) (qH (by kernel_rfl)))<|?_
     rcases hb4 : (decide (((8 : Nat) : Int) < (([x.a, x.b, x.c, [x.flat.a0.a0, x.flat.a0.a1], [x.flat.a1.a0, x.flat.a1.a1], [x.flat.a2.a0, x.flat.a2.a1]].getD k []).getD j 0))) with _ | _
     ·replace hb4 := vB hb4
      exact zK<|zK<|zE yM<|zZ
     ·replace hb4 := uH hb4
      exact zM<|zE vZ<|zE aJ<|zZ
    refine jF rfl (fun h5 => ?_) (fun h5 => ?_)
    ·refine jB<|kx [(4, (vb true))] [] (zM<|zZ) ?_
     refine jE ⟨_, (.tmp (d := (.val (.bool (true)))) rfl .nil), ?_⟩
     rfl
    ·refine jD<|kx [(73, (jN (j + 1)))] [] (zE (vG (j + 1))<|zM<|zZ) ?_
     exact ⟨j + 1, wk, ⟨by omega, aN (d := 0) (by omega) hal2 (by have hq := h5; simp only [bdK, Bool.and_eq_false_iff, decide_eq_false_iff_not] at hq ⊢; omega)⟩, (by first|omega|(dsimp only;omega))⟩
   ·replace h3 := vB h3
    refine kC<|kx [(64, (jN (k + 1)))] [] (zE (vG (k + 1))<|zM<|zZ) ?_
    exact ⟨k + 1, wk, ⟨by omega, aN (d := []) (by omega) hal (lm_f h5 (dH (by omega) hal2))⟩, (by first|omega|(dsimp only;omega))⟩
 ·replace h1 := vB h1
  have hL := dH (show [x.a, x.b, x.c, [x.flat.a0.a0, x.flat.a0.a1], [x.flat.a1.a0, x.flat.a1.a1], [x.flat.a2.a0, x.flat.a2.a1]].length ≤ k by omega) hal
  have hma := (lm_of hL (a := x.a) (by simp)).1
  have hmb := (lm_of hL (a := x.b) (by simp)).1
  have hmc := (lm_of hL (a := x.c) (by simp)).1
  have hln2 : ∀ y ∈ [x.a, x.b], y.length ≤ 1000000 := (fun y hy => by simp only [List.mem_cons, List.not_mem_nil, or_false] at hy; rcases hy with rfl | rfl <;> omega)
  have hln3 : ∀ y ∈ [x.a, x.b, x.c], y.length ≤ 1000000 := (fun y hy => by simp only [List.mem_cons, List.not_mem_nil, or_false] at hy; rcases hy with rfl | rfl | rfl <;> omega)
  have hln4 : ∀ y ∈ [[x.flat.a0.a0, x.flat.a0.a1], [x.flat.a1.a0, x.flat.a1.a1], [x.flat.a2.a0, x.flat.a2.a1]], y.length ≤ 1000000 := (fun y hy => by simp only [List.mem_cons, List.not_mem_nil, or_false] at hy; rcases hy with rfl | rfl | rfl <;> exact (nK rfl))
  have hc1 : cI [x.a, x.b] = 0 → CrLaw (zQ [v.a0, v.a1, v.a2, v.a3, v.a4, v.a5, v.a6, v.a7, v.a8]) [x.a, x.b] x.a.length := fun h => ⟨crd_ok h (Nat.succ_pos _), hxq, rfl, fun y hy => (lm_of hL (show y ∈ [x.a, x.b, x.c, [x.flat.a0.a0, x.flat.a0.a1], [x.flat.a1.a0, x.flat.a1.a1], [x.flat.a2.a0, x.flat.a2.a1]] by simp only [List.mem_cons, List.not_mem_nil, or_false] at hy ⊢; rcases hy with rfl | rfl <;> simp)).2⟩
  have hc2 : cI [x.a, x.b, x.c] = 0 → CrLaw (zQ [v.a0, v.a1, v.a2, v.a3, v.a4, v.a5, v.a6, v.a7, v.a8]) [x.a, x.b, x.c] x.a.length := fun h => ⟨crd_ok h (Nat.succ_pos _), hxq, rfl, fun y hy => (lm_of hL (show y ∈ [x.a, x.b, x.c, [x.flat.a0.a0, x.flat.a0.a1], [x.flat.a1.a0, x.flat.a1.a1], [x.flat.a2.a0, x.flat.a2.a1]] by simp only [List.mem_cons, List.not_mem_nil, or_false] at hy ⊢; rcases hy with rfl | rfl | rfl <;> simp)).2⟩
  have hc3 : cI [[x.flat.a0.a0, x.flat.a0.a1], [x.flat.a1.a0, x.flat.a1.a1], [x.flat.a2.a0, x.flat.a2.a1]] = 0 → CrLaw (zQ [v.a0, v.a1, v.a2, v.a3, v.a4, v.a5, v.a6, v.a7, v.a8]) [[x.flat.a0.a0, x.flat.a0.a1], [x.flat.a1.a0, x.flat.a1.a1], [x.flat.a2.a0, x.flat.a2.a1]] [x.flat.a0.a0, x.flat.a0.a1].length := fun h => ⟨crd_ok h (Nat.succ_pos _), hxq, rfl, fun y hy => (lm_of hL (show y ∈ [x.a, x.b, x.c, [x.flat.a0.a0, x.flat.a0.a1], [x.flat.a1.a0, x.flat.a1.a1], [x.flat.a2.a0, x.flat.a2.a1]] by simp only [List.mem_cons, List.not_mem_nil, or_false] at hy ⊢; rcases hy with rfl | rfl | rfl <;> simp)).2⟩
  clear hal hk h1 hl6 hv0 hv1 hv2 hv3 hv4 hv5 hv6 hv7 hv8 hxa hxb hxc
  refine kC<|pwp_bring2 (α := Unit) (fun _ => ⟨[(2, (.d (.cptr 3 (kA.cells (cQ x)) 0))), (5, (vl 45 4 jH (List.map jM y38)))], []⟩) (fun _ => True) ?_ ?_
  ·rintro _ _
   refine pwp_bring2 (α := Unit) (fun _ => ⟨[(2, (.d (.cptr 3 (kA.cells (cQ x)) 0))), (5, (vl 45 4 jH (List.map jM y38)))], []⟩) (fun _ => True) ?_ ?_
   ·rintro _ _
    refine jB<|kx [(25, (.ref 3 0)), (26, (.ref 4 0)), (27, (.ref 5 0))] [(3, some (bx (vN x.flat.a0))), (4, some (bx (vN x.flat.a1))), (5, some (bx (vN x.flat.a2)))] (zE (fW fo105_3)<|zE (oXc ar103 0)<|zE (dM sh59)<|zE (fW fo105_3)<|zE (oXc ar103 1)<|zE (dM sh59)<|zE (fW fo105_3)<|zE (oXc ar103 2)<|zE (dM sh59)<|zN (uU 3 ze59 zo59)<|zN (uU 4 ze59 zo59)<|zN (uU 5 ze59 zo59)<|zT (qM sh59)<|zT (qM sh59)<|zT (qM sh59)<|zZ) ?_
    refine jB ?_
    rcases hd3 : (decide (cI [[x.flat.a0.a0, x.flat.a0.a1], [x.flat.a1.a0, x.flat.a1.a1], [x.flat.a2.a0, x.flat.a2.a1]] = 0)) with _ | _
    ·refine kH (gH (t := 25) (k := 3) (o := 0) (T := 3) (cs := (kA.cells (vN x.flat.a0))) rfl rfl) ?_
     refine kH (gH (t := 26) (k := 4) (o := 0) (T := 3) (cs := (kA.cells (vN x.flat.a1))) rfl rfl) ?_
     refine kH (gH (t := 27) (k := 5) (o := 0) (T := 3) (cs := (kA.cells (vN x.flat.a2))) rfl rfl) ?_
     refine kx [(12, (vl 83 7 jS [])), (13, (jN (cI [[x.flat.a0.a0, x.flat.a0.a1], [x.flat.a1.a0, x.flat.a1.a1], [x.flat.a2.a0, x.flat.a2.a1]])))] [] (zE (dM sh59)<|zE (dM sh59)<|zE (dM sh59)<|zE (jZ (t_arE x.flat.a0 x.flat.a1 x.flat.a2 (vB hd3)))<|zM<|zE vP<|zE vP<|zM<|zM<|zZ) ?_
     refine jB<|jB<|kd [(28, (jN (cI [[x.flat.a0.a0, x.flat.a0.a1], [x.flat.a1.a0, x.flat.a1.a1], [x.flat.a2.a0, x.flat.a2.a1]])))] [] mo (wE (yL (es := List.map jI [x.flat.a0.a0, x.flat.a0.a1]) (by exact rfl) eZ (by exact rfl) (by kernel_rfl) (by kernel_rfl) (by kernel_rfl) (by kernel_rfl) (by kernel_rfl) (by kernel_rfl))<|wE (yL (es := List.map jI [x.flat.a1.a0, x.flat.a1.a1]) (by exact rfl) eZ (by exact rfl) (by kernel_rfl) (by kernel_rfl) (by kernel_rfl) (by kernel_rfl) (by kernel_rfl) (by kernel_rfl))<|wE (yL (es := List.map jI [x.flat.a2.a0, x.flat.a2.a1]) (by exact rfl) eZ (by exact rfl) (by kernel_rfl) (by kernel_rfl) (by kernel_rfl) (by kernel_rfl) (by kernel_rfl) (by kernel_rfl))<|wE (gN yK aV aX)<|wE (jZ (t_crd [[x.flat.a0.a0, x.flat.a0.a1], [x.flat.a1.a0, x.flat.a1.a1], [x.flat.a2.a0, x.flat.a2.a1]] (nK rfl) (nK rfl) hln4))<|wM<|wZ) ?_
     refine jB<|kx [(238, (vb true))] [] (zM<|zE (xL true nR (by exact bne_iff_ne.2 (by have hx := (vB hd3); omega)))<|zZ) ?_
     refine xD ?_
     refine jB<|kx [(4, (vb true))] [] (zM<|zM<|zE (xL true gA (by exact beq_self_eq_true _))<|zM<|zM<|zE (oLn aF 0)<|zE (xL true gA)<|zE hZ<|zM<|zZ) ?_
     refine jE ⟨_, (.tmp (d := (.val (.bool (true)))) rfl .nil), ?_⟩
     rfl
    ·refine kH (gH (t := 25) (k := 3) (o := 0) (T := 3) (cs := (kA.cells (vN x.flat.a0))) rfl rfl) ?_
     refine kH (gH (t := 26) (k := 4) (o := 0) (T := 3) (cs := (kA.cells (vN x.flat.a1))) rfl rfl) ?_
     refine kH (gH (t := 27) (k := 5) (o := 0) (T := 3) (cs := (kA.cells (vN x.flat.a2))) rfl rfl) ?_
     refine kx [(12, (vl 83 7 jS y30)), (13, (jN 0))] [] (zE (dM sh59)<|zE (dM sh59)<|zE (dM sh59)<|zE (jZ (t_ar x.flat.a0 x.flat.a1 x.flat.a2 (uH hd3)))<|zM<|zE vP<|zE vP<|zM<|zM<|zZ) ?_
     refine jB<|jB<|kd [(28, (jN (cI [[x.flat.a0.a0, x.flat.a0.a1], [x.flat.a1.a0, x.flat.a1.a1], [x.flat.a2.a0, x.flat.a2.a1]])))] [] mo (wE (yL (es := List.map jI [x.flat.a0.a0, x.flat.a0.a1]) (by exact rfl) eZ (by exact rfl) (by kernel_rfl) (by kernel_rfl) (by kernel_rfl) (by kernel_rfl) (by kernel_rfl) (by kernel_rfl))<|wE (yL (es := List.map jI [x.flat.a1.a0, x.flat.a1.a1]) (by exact rfl) eZ (by exact rfl) (by kernel_rfl) (by kernel_rfl) (by kernel_rfl) (by kernel_rfl) (by kernel_rfl) (by kernel_rfl))<|wE (yL (es := List.map jI [x.flat.a2.a0, x.flat.a2.a1]) (by exact rfl) eZ (by exact rfl) (by kernel_rfl) (by kernel_rfl) (by kernel_rfl) (by kernel_rfl) (by kernel_rfl) (by kernel_rfl))<|wE (gN yK aV aX)<|wE (jZ (t_crd [[x.flat.a0.a0, x.flat.a0.a1], [x.flat.a1.a0, x.flat.a1.a1], [x.flat.a2.a0, x.flat.a2.a1]] (nK rfl) (nK rfl) hln4))<|wM<|wZ) ?_
     refine jB<|kx [(238, (vb false))] [] (zM<|zE (xL false nR (by exact bne_eq_false_iff_eq.2 (by rw [show (cI [[x.flat.a0.a0, x.flat.a0.a1], [x.flat.a1.a0, x.flat.a1.a1], [x.flat.a2.a0, x.flat.a2.a1]]) = 0 from (uH hd3)] <;> rfl)))<|zZ) ?_
     refine kZ ?_
     refine jD<|jB<|kd [(29, (vl 45 4 jH (List.map jM y27))), (30, (vl 45 4 jH (List.map jM y28)))] [] mo (wE (yL (es := List.map jI [x.flat.a0.a0, x.flat.a0.a1]) (by exact rfl) eZ (by exact rfl) (by kernel_rfl) (by kernel_rfl) (by kernel_rfl) (by kernel_rfl) (by kernel_rfl) (by kernel_rfl))<|wE (yL (es := List.map jI [x.flat.a1.a0, x.flat.a1.a1]) (by exact rfl) eZ (by exact rfl) (by kernel_rfl) (by kernel_rfl) (by kernel_rfl) (by kernel_rfl) (by kernel_rfl) (by kernel_rfl))<|wM<|wE (jZ (u_away [x.flat.a0.a0, x.flat.a0.a1] [x.flat.a1.a0, x.flat.a1.a1] y38 hxq ((hc3 (uH hd3)).le (a := [x.flat.a0.a0, x.flat.a0.a1]) (by simp)) ((hc3 (uH hd3)).le (a := [x.flat.a1.a0, x.flat.a1.a1]) (by simp)) (nK rfl) (nK rfl)))<|wE (yL (es := List.map jI [x.flat.a0.a0, x.flat.a0.a1]) (by exact rfl) eZ (by exact rfl) (by kernel_rfl) (by kernel_rfl) (by kernel_rfl) (by kernel_rfl) (by kernel_rfl) (by kernel_rfl))<|wE (yL (es := List.map jI [x.flat.a2.a0, x.flat.a2.a1]) (by exact rfl) eZ (by exact rfl) (by kernel_rfl) (by kernel_rfl) (by kernel_rfl) (by kernel_rfl) (by kernel_rfl) (by kernel_rfl))<|wM<|wE (jZ (u_away [x.flat.a0.a0, x.flat.a0.a1] [x.flat.a2.a0, x.flat.a2.a1] y38 hxq ((hc3 (uH hd3)).le (a := [x.flat.a0.a0, x.flat.a0.a1]) (by simp)) ((hc3 (uH hd3)).le (a := [x.flat.a2.a0, x.flat.a2.a1]) (by simp)) (nK rfl) (nK rfl)))<|wM<|wM<|wZ) ?_
     refine jB<|kx [(31, (.ref 6 0)), (32, (jN 0))] [(6, some (bx (jH y20)))] (zM<|zM<|zE (jZ (u_val y30 (tns_are [x.flat.a0.a0, x.flat.a0.a1] [x.flat.a1.a0, x.flat.a1.a1] [x.flat.a2.a0, x.flat.a2.a1]) y38 (fun q hq => xQ (hxq q hq) (by decide)) ((are_fin (hc3 (uH hd3))).1) (nK rfl)))<|zM<|zE vP<|zE vP<|zN (uU 6 qA qO)<|zT (qM jO)<|zM<|zZ) ?_
     refine jB<|kd [(4, (vb true))] [] mo (wM<|wE (xL true gA)<|wM<|wM<|wE (xL true gA)<|wE hZ<|wM<|wR (kP jO)<|wM<|wE (oXm qN jM 0 0 (hj := by first | omega | exact dU (nK rfl)) (h1 := by first | omega | exact dU (nK rfl)))<|wE (dM jO)<|wM<|wE (oXm qN jM 1 0 (hj := by first | omega | exact dU (nK rfl)) (h1 := by first | omega | exact dU (nK rfl)))<|wE (dM jO)<|wE (jZ (g_mul (jM y23) (jM y24) y23 y24 (jP (jX (xN (kV hxq [x.flat.a0.a0, x.flat.a0.a1] [x.flat.a1.a0, x.flat.a1.a1]) (by decide) 0)) (by decide)) (jP (jX (xN (kV hxq [x.flat.a0.a0, x.flat.a0.a1] [x.flat.a2.a0, x.flat.a2.a1]) (by decide) 1)) (by decide))))<|wM<|wE (oXm qN jM 1 0 (hj := by first | omega | exact dU (nK rfl)) (h1 := by first | omega | exact dU (nK rfl)))<|wE (dM jO)<|wM<|wE (oXm qN jM 0 0 (hj := by first | omega | exact dU (nK rfl)) (h1 := by first | omega | exact dU (nK rfl)))<|wE (dM jO)<|wE (jZ (g_mul (jM y25) (jM y26) y25 y26 (jP (jX (xN (kV hxq [x.flat.a0.a0, x.flat.a0.a1] [x.flat.a1.a0, x.flat.a1.a1]) (by decide) 1)) (by decide)) (jP (jX (xN (kV hxq [x.flat.a0.a0, x.flat.a0.a1] [x.flat.a2.a0, x.flat.a2.a1]) (by decide) 0)) (by decide))))<|wE (jZ (g_sub (jM y8) (jM y9) y8 y9 (jP (jX (qF (k := 14) (xN (kV hxq [x.flat.a0.a0, x.flat.a0.a1] [x.flat.a1.a0, x.flat.a1.a1]) (by decide) 0) (xN (kV hxq [x.flat.a0.a0, x.flat.a0.a1] [x.flat.a2.a0, x.flat.a2.a1]) (by decide) 1) (by decide))) (by decide)) (jP (jX (qF (k := 14) (xN (kV hxq [x.flat.a0.a0, x.flat.a0.a1] [x.flat.a1.a0, x.flat.a1.a1]) (by decide) 1) (xN (kV hxq [x.flat.a0.a0, x.flat.a0.a1] [x.flat.a2.a0, x.flat.a2.a1]) (by decide) 0) (by decide))) (by decide))))<|wE (xL true (jZ (by have h := g_same y20 (jM y3) y21 y3 (jP (jX ((are_fin (hc3 (uH hd3))).1).last) (by decide)) (jP (jX (dS (k := 29) (qF (k := 14) (xN (kV hxq [x.flat.a0.a0, x.flat.a0.a1] [x.flat.a1.a0, x.flat.a1.a1]) (by decide) 0) (xN (kV hxq [x.flat.a0.a0, x.flat.a0.a1] [x.flat.a2.a0, x.flat.a2.a1]) (by decide) 1) (by decide)) (qF (k := 14) (xN (kV hxq [x.flat.a0.a0, x.flat.a0.a1] [x.flat.a1.a0, x.flat.a1.a1]) (by decide) 1) (xN (kV hxq [x.flat.a0.a0, x.flat.a0.a1] [x.flat.a2.a0, x.flat.a2.a1]) (by decide) 0) (by decide)) (by decide))) (by decide)); rw [sameR_of] at h; exact h)) (by exact decide_eq_true ((are_fin (hc3 (uH hd3))).2)))<|wE hZ<|wM<|wZ) ?_
     refine jE ⟨_, (.tmp (d := (.val (.bool (true)))) rfl .nil), ?_⟩
     rfl
   ·intro hB30
    refine jB ?_
    rcases hd2 : (decide (cI [x.a, x.b, x.c] = 0)) with _ | _
    ·refine kx [(12, (vl 83 7 jS [])), (13, (jN (cI [x.a, x.b, x.c])))] [] (zE (fW mE)<|zE (xI xG)<|zE (fW mY)<|zE (xI xG)<|zE (fW fo105_2)<|zE (xI xG)<|zE (jZ (t_csE x.a x.b x.c (vB hd2) (by omega) (by omega) (by omega)))<|zM<|zE vP<|zE vP<|zM<|zM<|zZ) ?_
     refine jB<|jB<|kx [(18, (jN (cI [x.a, x.b, x.c])))] [] (zE (fW mE)<|zE (xI xG)<|zE (fW mY)<|zE (xI xG)<|zE (fW fo105_2)<|zE (xI xG)<|zE (gN yK aV aX)<|zE (jZ (t_crd [x.a, x.b, x.c] (nK rfl) (nK rfl) hln3))<|zM<|zZ) ?_
     refine jB<|kx [(154, (vb true))] [] (zM<|zE (xL true nR (by exact bne_iff_ne.2 (by have hx := (vB hd2); omega)))<|zZ) ?_
     refine xD ?_
     refine jB<|kx [(162, (vb false))] [] (zM<|zM<|zE (xL false nR (by exact bne_self_eq_false _))<|zM<|zM<|zE (oLn aF 0)<|zE (xL false nR)<|zE yM<|zZ) ?_
     refine kZ ?_
     refine jD ?_
     exact hB30 _ (met () wk trivial)
    ·refine kx [(12, (vl 83 7 jS (cosT x.a x.b x.c))), (13, (jN 0))] [] (zE (fW mE)<|zE (xI xG)<|zE (fW mY)<|zE (xI xG)<|zE (fW fo105_2)<|zE (xI xG)<|zE (jZ (t_cs x.a x.b x.c (uH hd2) (by omega) (by omega) (by omega)))<|zM<|zE vP<|zE vP<|zM<|zM<|zZ) ?_
     refine jB<|jB<|kx [(18, (jN (cI [x.a, x.b, x.c])))] [] (zE (fW mE)<|zE (xI xG)<|zE (fW mY)<|zE (xI xG)<|zE (fW fo105_2)<|zE (xI xG)<|zE (gN yK aV aX)<|zE (jZ (t_crd [x.a, x.b, x.c] (nK rfl) (nK rfl) hln3))<|zM<|zZ) ?_
     refine jB<|kx [(154, (vb false))] [] (zM<|zE (xL false nR (by exact bne_eq_false_iff_eq.2 (by rw [show (cI [x.a, x.b, x.c]) = 0 from (uH hd2)] <;> rfl)))<|zZ) ?_
     refine kZ ?_
     refine jB<|kd [(19, (vl 45 4 jH (List.map jM y36))), (20, (vl 45 4 jH (List.map jM y37)))] [] mo (wE (fW mE)<|wE (xI xG)<|wE (fW mY)<|wE (xI xG)<|wM<|wE (jZ (u_away x.a x.b y38 hxq ((hc2 (uH hd2)).le (a := x.a) (by simp)) ((hc2 (uH hd2)).le (a := x.b) (by simp)) (nK rfl) (by omega)))<|wE (fW mE)<|wE (xI xG)<|wE (fW fo105_2)<|wE (xI xG)<|wM<|wE (jZ (u_away x.a x.c y38 hxq ((hc2 (uH hd2)).le (a := x.a) (by simp)) ((hc2 (uH hd2)).le (a := x.c) (by simp)) (nK rfl) (by omega)))<|wM<|wM<|wZ) ?_
     refine jB ?_
     rcases hw : (decide (((dtV (cJ (zQ [v.a0, v.a1, v.a2, v.a3, v.a4, v.a5, v.a6, v.a7, v.a8]) x.a x.b) (cJ (zQ [v.a0, v.a1, v.a2, v.a3, v.a4, v.a5, v.a6, v.a7, v.a8]) x.a x.b) (cJ (zQ [v.a0, v.a1, v.a2, v.a3, v.a4, v.a5, v.a6, v.a7, v.a8]) x.a x.b).length) * (dtV (cJ (zQ [v.a0, v.a1, v.a2, v.a3, v.a4, v.a5, v.a6, v.a7, v.a8]) x.a x.c) (cJ (zQ [v.a0, v.a1, v.a2, v.a3, v.a4, v.a5, v.a6, v.a7, v.a8]) x.a x.c) (cJ (zQ [v.a0, v.a1, v.a2, v.a3, v.a4, v.a5, v.a6, v.a7, v.a8]) x.a x.c).length)) = 0)) with _ | _
     ·refine kx [(21, (.ref 7 0)), (22, (jN 0))] [(7, some (bx (jH y31)))] (zM<|zM<|zE (jZ (u_val (cosT x.a x.b x.c) (tns_cos x.a x.b x.c) y38 (fun q hq => xQ (hxq q hq) (by decide)) (((cos_fin (hc2 (uH hd2))).1 (vB hw)).1) (nK rfl)))<|zM<|zE vP<|zE vP<|zN (uU 7 qA qO)<|zT (qM jO)<|zM<|zZ) ?_
      refine jB<|kx [(23, (.ref 8 0)), (24, (vi 0))] [(8, some (bx (jH y1)))] (zM<|zM<|zE (jZ (u_dot y36 (kV hxq x.a x.b) y37 (kV hxq x.a x.c) (xC hma) awl_eq))<|zM<|zM<|zE (jZ (u_dot y36 (kV hxq x.a x.b) y37 (kV hxq x.a x.c) (xC hma) awl_eq))<|zE (jZ (g_mul y11 y11 y14 y14 (jP (jX (xP (kV hxq x.a x.b) (kV hxq x.a x.c) (xC hma))) (by decide)) (jP (jX (xP (kV hxq x.a x.b) (kV hxq x.a x.c) (xC hma))) (by decide))))<|zM<|zM<|zE (jZ (u_dot y36 (kV hxq x.a x.b) y36 (kV hxq x.a x.b) (xC hma) (by omega)))<|zM<|zM<|zE (jZ (u_dot y37 (kV hxq x.a x.c) y37 (kV hxq x.a x.c) (xC hma) (by omega)))<|zE (jZ (g_mul y12 y13 y15 y16 (jP (jX (xP (kV hxq x.a x.b) (kV hxq x.a x.b) (xC hma))) (by decide)) (jP (jX (xP (kV hxq x.a x.c) (kV hxq x.a x.c) (xC hma))) (by decide))))<|zE (jZ (by have h := g_divide y4 y5 y6 y7 (jP (jX (qF (k := 4000) (xP (kV hxq x.a x.b) (kV hxq x.a x.c) (xC hma)) (xP (kV hxq x.a x.b) (kV hxq x.a x.c) (xC hma)) (by decide))) (by decide)) (jP (jX (qF (k := 4000) (xP (kV hxq x.a x.b) (kV hxq x.a x.b) (xC hma)) (xP (kV hxq x.a x.c) (kV hxq x.a x.c) (xC hma)) (by decide))) (by decide)); rw [divR_ne (vB hw), divC_ne (vB hw)] at h; exact h))<|zM<|zE vP<|zE vP<|zN (uU 8 qA qO)<|zT (qM jO)<|zM<|zZ) ?_
      refine jB<|kx [(215, (vb false))] [] (zM<|zE (xL false nR)<|zM<|zM<|zM<|zE (xL false nR)<|zE yM<|zM<|zM<|zE (xL true gA)<|zM<|zR (kP jO)<|zR (kP jO)<|zE (xL true (jZ (by have h := g_same y31 y1 y33 y2 (jP (jX (((cos_fin (hc2 (uH hd2))).1 (vB hw)).1).last) (by decide)) (jP (jX (ql_div (k := 8000) (qF (k := 4000) (xP (kV hxq x.a x.b) (kV hxq x.a x.c) (xC hma)) (xP (kV hxq x.a x.b) (kV hxq x.a x.c) (xC hma)) (by decide)) (qF (k := 4000) (xP (kV hxq x.a x.b) (kV hxq x.a x.b) (xC hma)) (xP (kV hxq x.a x.c) (kV hxq x.a x.c) (xC hma)) (by decide)) (by decide))) (by decide)); rw [sameR_of] at h; exact h)) (by exact decide_eq_true (((cos_fin (hc2 (uH hd2))).1 (vB hw)).2)))<|zE fC<|zE hZ<|zE yM<|zZ) ?_
      refine kZ ?_
      refine jD ?_
      exact hB30 _ (met () wk trivial)
     ·refine kx [(21, (.ref 7 0)), (22, (jN 14))] [(7, some (bx (jH kW)))] (zM<|zM<|zE (jZ (u_valF (cosT x.a x.b x.c) (tns_cos x.a x.b x.c) y38 (fun q hq => xQ (hxq q hq) (by decide)) ((cos_fin (hc2 (uH hd2))).2 (uH hw)) (nK rfl)))<|zM<|zE vP<|zE vP<|zN (uU 7 qA qO)<|zT (qM jO)<|zM<|zZ) ?_
      refine jB<|kx [(23, (.ref 8 0)), (24, (vi (divC y7)))] [(8, some (bx (jH (divR y6 y7))))] (zM<|zM<|zE (jZ (u_dot y36 (kV hxq x.a x.b) y37 (kV hxq x.a x.c) (xC hma) awl_eq))<|zM<|zM<|zE (jZ (u_dot y36 (kV hxq x.a x.b) y37 (kV hxq x.a x.c) (xC hma) awl_eq))<|zE (jZ (g_mul y11 y11 y14 y14 (jP (jX (xP (kV hxq x.a x.b) (kV hxq x.a x.c) (xC hma))) (by decide)) (jP (jX (xP (kV hxq x.a x.b) (kV hxq x.a x.c) (xC hma))) (by decide))))<|zM<|zM<|zE (jZ (u_dot y36 (kV hxq x.a x.b) y36 (kV hxq x.a x.b) (xC hma) (by omega)))<|zM<|zM<|zE (jZ (u_dot y37 (kV hxq x.a x.c) y37 (kV hxq x.a x.c) (xC hma) (by omega)))<|zE (jZ (g_mul y12 y13 y15 y16 (jP (jX (xP (kV hxq x.a x.b) (kV hxq x.a x.b) (xC hma))) (by decide)) (jP (jX (xP (kV hxq x.a x.c) (kV hxq x.a x.c) (xC hma))) (by decide))))<|zE (jZ (g_divide y4 y5 y6 y7 (jP (jX (qF (k := 4000) (xP (kV hxq x.a x.b) (kV hxq x.a x.c) (xC hma)) (xP (kV hxq x.a x.b) (kV hxq x.a x.c) (xC hma)) (by decide))) (by decide)) (jP (jX (qF (k := 4000) (xP (kV hxq x.a x.b) (kV hxq x.a x.b) (xC hma)) (xP (kV hxq x.a x.c) (kV hxq x.a x.c) (xC hma)) (by decide))) (by decide))))<|zM<|zE vP<|zE vP<|zN (uU 8 qA qO)<|zT (qM jO)<|zM<|zZ) ?_
      refine jB<|kx [(215, (vb false))] [] (zM<|zE (xL false nR)<|zM<|zM<|zM<|zE (xL false nR (by exact bne_eq_false_iff_eq.2 ((divC_zero (uH hw)).symm)))<|zE yM<|zM<|zM<|zE (xL false gA (by exact beq_eq_false_iff_ne.2 (by rw [divC_zero (uH hw)]; decide)))<|zM<|zK<|zK<|zK<|zK<|zE yM<|zE yM<|zZ) ?_
      refine kZ ?_
      refine jD ?_
      exact hB30 _ (met () wk trivial)
  ·intro hB21
   refine jB ?_
   rcases hd1 : (decide (cI [x.a, x.b] = 0)) with _ | _
   ·refine kx [(12, (vl 83 7 jS [])), (13, (jN (cI [x.a, x.b])))] [] (zE (fW mE)<|zE (xI xG)<|zE (fW mY)<|zE (xI xG)<|zE (jZ (t_dsE x.a x.b (vB hd1) (by omega) (by omega)))<|zM<|zE vP<|zE vP<|zM<|zM<|zZ) ?_
    refine jB<|jB<|kx [(14, (jN (cI [x.a, x.b])))] [] (zE (fW mE)<|zE (xI xG)<|zE (fW mY)<|zE (xI xG)<|zE (gN yK aV aX)<|zE (jZ (t_crd [x.a, x.b] (nK rfl) (nK rfl) hln2))<|zM<|zZ) ?_
    refine jB<|kx [(100, (vb true))] [] (zM<|zE (xL true nR (by exact bne_iff_ne.2 (by have hx := (vB hd1); omega)))<|zZ) ?_
    refine xD ?_
    refine jB<|kx [(108, (vb false))] [] (zM<|zM<|zE (xL false nR (by exact bne_self_eq_false _))<|zM<|zM<|zE (oLn aF 0)<|zE (xL false nR)<|zE yM<|zZ) ?_
    refine kZ ?_
    refine jD ?_
    exact hB21 _ (met () wk trivial)
   ·refine kx [(12, (vl 83 7 jS (dstT x.a x.b))), (13, (jN 0))] [] (zE (fW mE)<|zE (xI xG)<|zE (fW mY)<|zE (xI xG)<|zE (jZ (t_ds x.a x.b (uH hd1) (by omega) (by omega)))<|zM<|zE vP<|zE vP<|zM<|zM<|zZ) ?_
    refine jB<|jB<|kx [(14, (jN (cI [x.a, x.b])))] [] (zE (fW mE)<|zE (xI xG)<|zE (fW mY)<|zE (xI xG)<|zE (gN yK aV aX)<|zE (jZ (t_crd [x.a, x.b] (nK rfl) (nK rfl) hln2))<|zM<|zZ) ?_
    refine jB<|kx [(100, (vb false))] [] (zM<|zE (xL false nR (by exact bne_eq_false_iff_eq.2 (by rw [show (cI [x.a, x.b]) = 0 from (uH hd1)] <;> rfl)))<|zZ) ?_
    refine kZ ?_
    refine jB<|kx [(15, (vl 45 4 jH (List.map jM y36)))] [] (zE (fW mE)<|zE (xI xG)<|zE (fW mY)<|zE (xI xG)<|zM<|zE (jZ (u_away x.a x.b y38 hxq ((hc1 (uH hd1)).le (a := x.a) (by simp)) ((hc1 (uH hd1)).le (a := x.b) (by simp)) (nK rfl) (by omega)))<|zM<|zZ) ?_
    refine jB<|kx [(16, (.ref 9 0)), (17, (jN 0))] [(9, some (bx (jH y32)))] (zM<|zM<|zE (jZ (u_val (dstT x.a x.b) (tns_dst x.a x.b) y38 (fun q hq => xQ (hxq q hq) (by decide)) ((dst_fin (hc1 (uH hd1))).1) (nK rfl)))<|zM<|zE vP<|zE vP<|zN (uU 9 qA qO)<|zT (qM jO)<|zM<|zZ) ?_
    refine jB<|kd [(134, (vb false))] [] mo (wM<|wE (xL false nR)<|wM<|wM<|wE (xL false nR)<|wE yM<|wM<|wR (kP jO)<|wM<|wM<|wE (jZ (u_dot y36 (kV hxq x.a x.b) y36 (kV hxq x.a x.b) (xC hma) (by omega)))<|wE (xL true (jZ (by have h := g_same y32 y12 y35 y15 (jP (jX ((dst_fin (hc1 (uH hd1))).1).last) (by decide)) (jP (jX (xP (kV hxq x.a x.b) (kV hxq x.a x.b) (xC hma))) (by decide)); rw [sameR_of] at h; exact h)) (by exact decide_eq_true ((dst_fin (hc1 (uH hd1))).2)))<|wE fC<|wE yM<|wZ) ?_
    refine kZ ?_
    refine jD ?_
    exact hB21 _ (met () wk trivial)
end Go.Proofs.YtnajallgoaiahaaGreatDoor
