/- Part 30 of a proof: rules, plain facts, and functions walked. -/
import Derived.Test.YtbecgnplakngdaaGreatM29
namespace Go.Proofs.YtbecgnplakngdaaGreat
open Go.Fid
set_option maxRecDepth 4000
set_option linter.unusedVariables false
set_option linter.unusedSimpArgs false
theorem cb16 : callB Tryz.prog 16 = true := by kernel_rfl
theorem cb18 : callB Tryz.prog 18 = true := by kernel_rfl
theorem cb86 : callB Tryz.prog 86 = true := by kernel_rfl
theorem cb87 : callB Tryz.prog 87 = true := by kernel_rfl
theorem g_whole5 (x : Int) (hxl : -9223372036854775808 ≤ x) (hxh : x ≤ 9223372036854775807) : kH Tryz.prog 86 [(.val (.int .i64 (x)))] (jM (jB ((x : Int) : Rat))) := by
 refine jP Tryz.func86 rfl cb86 rfl ?_
 show uK _ _ _ _ ⟨[(0, (vi x))], []⟩
 refine jA <| kx [(2, (.ref 0 0))] [(0, some (bx (jM (kC.mk (jK.mk false []) (jK.mk false [])))))] (zN (qW 0 qA qH) <| zZ) ?_
 refine jA ?_
 have bn1 : QL ((x : Int) : Rat) 3 := (kV (z := x) (jQ (by omega) (by omega)) (by decide))
 refine kx [] [(0, some (bx (jM (jB ((x : Int) : Rat)))))] (zM <| zE (kA (cV x (by omega) (by omega))) <| zT (kW jO) <| zZ) ?_
 refine jJ ⟨_, (qC (cs := (bx (jM (jB ((x : Int) : Rat))))) (d := (jM (jB ((x : Int) : Rat)))) rfl rfl jO rfl rfl .nil), ?_⟩
 rfl
theorem g_det1 (a00 : Rat) (eQ : QL a00 10000000) : kH Tryz.prog 18 [(.sl 52 1 (List.map jN [[(jB a00)]]))] (jM (jB a00)) := by
 refine jP Tryz.func18 rfl cb18 rfl ?_
 show uK _ _ _ _ ⟨[(0, (vl 52 1 jN [[(jB a00)]]))], []⟩
 refine jA <| kx [(2, (.ref 0 0))] [(0, some (bx (jM (kC.mk (jK.mk false []) (jK.mk false [])))))] (zN (qW 0 qA qH) <| zZ) ?_
 refine jA <| jA <| kx [(8, (vb true))] [] (zM <| zE (yK kZ 1) <| zE cB <| zZ) ?_
 refine jS ?_
 refine jA <| kx [] [(0, some (bx (jM (jB a00))))] (zM <| zE (vM kZ 0) <| zE (xX yB) <| zE (vM qF 0) <| zE (nL jO) <| zT (kW jO) <| zZ) ?_
 refine jJ ⟨_, (qC (cs := (bx (jM (jB a00)))) (d := (jM (jB a00))) rfl rfl jO rfl rfl .nil), ?_⟩
 rfl
theorem g_min2_0 (a00 a01 a10 a11 : Rat) (eQ : QL a00 10000000) (cM : QL a01 10000000) (mB : QL a10 10000000) (cT : QL a11 10000000) : kH Tryz.prog 87 [(.sl 52 1 (List.map jN [[(jB a00), (jB a01)], [(jB a10), (jB a11)]])), (.val (.int .i64 (((0 : Nat) : Int)))), (.val (.int .i64 (((0 : Nat) : Int))))] (.sl 52 1 (List.map jN [[(jB a11)]])) := by
 refine jP Tryz.func87 rfl cb87 rfl ?_
 show uK _ _ _ _ ⟨[(0, (vl 52 1 jN [[(jB a00), (jB a01)], [(jB a10), (jB a11)]])), (1, (kD 0)), (2, (kD 0))], []⟩
 refine jA <| kx [] [] (zE (oNl 52 1) <| zZ) ?_
 refine jA <| kx [(7, (.own 0 52 1 0))] [(0, some (bm jN []))] (zN (oBo 0 kZ gP eC) <| zM <| zZ) ?_
 refine jA <| jA <| kx [(8, (kD 0))] [] (zM <| zZ) ?_
 refine jF <| kN 20 ?_
 refine kU <| jA <| jA <| kx [(15, (vb true))] [] (zM <| zM <| zE (yK kZ 2) <| zE (qL true qI) <| zZ) ?_
 refine jS ?_
 refine jE <| jA <| jF <| jA <| jA <| kx [(20, (vb true))] [] (zM <| zM <| zE cB <| zZ) ?_
 refine jS ?_
 refine kB <| kx [(8, (kD 1))] [] (zM <| zE (qP 1 (hr := by decide)) <| zM <| zZ) ?_
 refine jI (jT.refl _) ?_
 refine jA <| jA <| kx [(15, (vb true))] [] (zM <| zM <| zE (yK kZ 2) <| zE (qL true qI) <| zZ) ?_
 refine jS ?_
 refine jE <| jA <| jF <| jA <| jA <| kx [(20, (vb false))] [] (zM <| zM <| zE cB <| zZ) ?_
 refine kG ?_
 refine jE <| jA <| kx [(9, (.own 1 42 4 0))] [(1, some (cH jM []))] (zH (oBo 1 qF qA qH) <| zM <| zZ) ?_
 refine jA <| jA <| kx [(10, (kD 0))] [] (zM <| zZ) ?_
 refine jF <| kN 20 ?_
 refine kU <| jA <| jA <| kx [(25, (vb true))] [] (zM <| zM <| zE (yK kZ 2) <| zE (qL true qI) <| zZ) ?_
 refine jS ?_
 refine jE <| jA <| jF <| jA <| kx [(30, (vb false))] [] (zM <| zM <| zE mE <| zZ) ?_
 refine kG ?_
 refine jE <| kx [(10, (kD 1))] [] (zM <| zE (qP 1 (hr := by decide)) <| zM <| zZ) ?_
 refine jI (jT.refl _) ?_
 refine jA <| jA <| kx [(25, (vb true))] [] (zM <| zM <| zE (yK kZ 2) <| zE (qL true qI) <| zZ) ?_
 refine jS ?_
 refine jE <| jA <| jF <| jA <| kJ (wk (l := [(0, (vl 52 1 jN [[(jB a00), (jB a01)], [(jB a10), (jB a11)]])), (1, (kD 0)), (2, (kD 0)), (7, (.own 0 52 1 0)), (8, (kD 1)), (9, (.own 1 42 4 0)), (10, (kD 1)), (25, (vb true))]) (b := [(0, some (bm jN [])), (1, some (cH jM []))])) ?_
 refine kx [(30, (vb true))] [] (zM <| zM <| zE mE <| zZ) ?_
 refine jS ?_
 refine kf [(9, (.own 1 42 4 ([(jB a11)].length)))] [(1, some (cH jM [(jB a11)]))] (zM <| zM <| zM <| zE (vM kZ 1) <| zE (xX yB) <| zM <| zE (vM qF 1) <| zE (nL jO) <| zE (nO qF qA qH) <| zAS jM [] [(jB a11)] rfl qF qA cR (hbig := by exact (by simp +zetaDelta [maxLen] <;> omega)) (hbig' := by exact (by simp +zetaDelta <;> omega)) <| zM <| zF) ?_
 refine kx [(10, (kD 2))] [] (zM <| zE (qP 2 (hr := by decide)) <| zM <| zZ) ?_
 refine jI (jT.refl _) ?_
 refine jA <| jA <| kx [(25, (vb false))] [] (zM <| zM <| zE (yK kZ 2) <| zE (qL false qI) <| zZ) ?_
 refine kG ?_
 refine kB <| kJ (uV (t := 9) (k := 1) (es := List.map jM [(jB a11)]) rfl rfl (vY _ _ (fun _ => rfl)) (uS _ _ rfl) (yS jM [(jB a11)] (fun _ => rfl) rfl)) ?_
 refine kf [(7, (.own 0 52 1 ([[(jB a11)]].length)))] [(0, some (bm jN [[(jB a11)]]))] (zM <| zM <| zE (nO kZ gP eC) <| zA jN [] [[(jB a11)]] rfl kZ gP by52 (hbig := by exact (by simp +zetaDelta [maxLen] <;> omega)) (hbig' := by exact (by simp +zetaDelta <;> omega)) <| zM <| zF) ?_
 refine kx [(8, (kD 2))] [] (zM <| zE (qP 2 (hr := by decide)) <| zM <| zZ) ?_
 refine jI (jT.refl _) ?_
 refine jA <| jA <| kx [(15, (vb false))] [] (zM <| zM <| zE (yK kZ 2) <| zE (qL false qI) <| zZ) ?_
 refine kG ?_
 refine kB <| jA <| kx [(6, (.own 0 52 1 ([[(jB a11)]].length)))] [] (zM <| zM <| zZ) ?_
 refine kJ (uV (t := 6) (k := 0) (es := List.map jN [[(jB a11)]]) rfl rfl (vK _ _ (fun _ => rfl)) (uS _ _ rfl) (xG _ _ (fun _ => rfl) rfl)) ?_
 refine jJ ⟨_, (.tmp (d := (.sl 52 1 (List.map jN [[(jB a11)]]))) rfl .nil), ?_⟩
 rfl
theorem g_min2_1 (a00 a01 a10 a11 : Rat) (eQ : QL a00 10000000) (cM : QL a01 10000000) (mB : QL a10 10000000) (cT : QL a11 10000000) : kH Tryz.prog 87 [(.sl 52 1 (List.map jN [[(jB a00), (jB a01)], [(jB a10), (jB a11)]])), (.val (.int .i64 (((0 : Nat) : Int)))), (.val (.int .i64 (((1 : Nat) : Int))))] (.sl 52 1 (List.map jN [[(jB a10)]])) := by
 refine jP Tryz.func87 rfl cb87 rfl ?_
 show uK _ _ _ _ ⟨[(0, (vl 52 1 jN [[(jB a00), (jB a01)], [(jB a10), (jB a11)]])), (1, (kD 0)), (2, (kD 1))], []⟩
 refine jA <| kx [] [] (zE (oNl 52 1) <| zZ) ?_
 refine jA <| kx [(7, (.own 0 52 1 0))] [(0, some (bm jN []))] (zN (oBo 0 kZ gP eC) <| zM <| zZ) ?_
 refine jA <| jA <| kx [(8, (kD 0))] [] (zM <| zZ) ?_
 refine jF <| kN 20 ?_
 refine kU <| jA <| jA <| kx [(15, (vb true))] [] (zM <| zM <| zE (yK kZ 2) <| zE (qL true qI) <| zZ) ?_
 refine jS ?_
 refine jE <| jA <| jF <| jA <| jA <| kx [(20, (vb true))] [] (zM <| zM <| zE cB <| zZ) ?_
 refine jS ?_
 refine kB <| kx [(8, (kD 1))] [] (zM <| zE (qP 1 (hr := by decide)) <| zM <| zZ) ?_
 refine jI (jT.refl _) ?_
 refine jA <| jA <| kx [(15, (vb true))] [] (zM <| zM <| zE (yK kZ 2) <| zE (qL true qI) <| zZ) ?_
 refine jS ?_
 refine jE <| jA <| jF <| jA <| jA <| kx [(20, (vb false))] [] (zM <| zM <| zE cB <| zZ) ?_
 refine kG ?_
 refine jE <| jA <| kx [(9, (.own 1 42 4 0))] [(1, some (cH jM []))] (zH (oBo 1 qF qA qH) <| zM <| zZ) ?_
 refine jA <| jA <| kx [(10, (kD 0))] [] (zM <| zZ) ?_
 refine jF <| kN 20 ?_
 refine kU <| jA <| jA <| kx [(25, (vb true))] [] (zM <| zM <| zE (yK kZ 2) <| zE (qL true qI) <| zZ) ?_
 refine jS ?_
 refine jE <| jA <| jF <| jA <| kx [(30, (vb true))] [] (zM <| zM <| zE mE <| zZ) ?_
 refine jS ?_
 refine kf [(9, (.own 1 42 4 ([(jB a10)].length)))] [(1, some (cH jM [(jB a10)]))] (zM <| zM <| zM <| zE (vM kZ 1) <| zE (xX yB) <| zM <| zE (vM qF 0) <| zE (nL jO) <| zE (nO qF qA qH) <| zAS jM [] [(jB a10)] rfl qF qA cR (hbig := by exact (by simp +zetaDelta [maxLen] <;> omega)) (hbig' := by exact (by simp +zetaDelta <;> omega)) <| zM <| zF) ?_
 refine kx [(10, (kD 1))] [] (zM <| zE (qP 1 (hr := by decide)) <| zM <| zZ) ?_
 refine jI (jT.refl _) ?_
 refine jA <| jA <| kJ (wk (l := [(0, (vl 52 1 jN [[(jB a00), (jB a01)], [(jB a10), (jB a11)]])), (1, (kD 0)), (2, (kD 1)), (7, (.own 0 52 1 0)), (8, (kD 1)), (9, (.own 1 42 4 ([(jB a10)].length))), (10, (kD 1))]) (b := [(0, some (bm jN [])), (1, some (cH jM [(jB a10)]))])) ?_
 refine kx [(25, (vb true))] [] (zM <| zM <| zE (yK kZ 2) <| zE (qL true qI) <| zZ) ?_
 refine jS ?_
 refine jE <| jA <| jF <| jA <| kx [(30, (vb false))] [] (zM <| zM <| zE mE <| zZ) ?_
 refine kG ?_
 refine jE <| kx [(10, (kD 2))] [] (zM <| zE (qP 2 (hr := by decide)) <| zM <| zZ) ?_
 refine jI (jT.refl _) ?_
 refine jA <| jA <| kx [(25, (vb false))] [] (zM <| zM <| zE (yK kZ 2) <| zE (qL false qI) <| zZ) ?_
 refine kG ?_
 refine kB <| kJ (uV (t := 9) (k := 1) (es := List.map jM [(jB a10)]) rfl rfl (vY _ _ (fun _ => rfl)) (uS _ _ rfl) (yS jM [(jB a10)] (fun _ => rfl) rfl)) ?_
 refine kf [(7, (.own 0 52 1 ([[(jB a10)]].length)))] [(0, some (bm jN [[(jB a10)]]))] (zM <| zM <| zE (nO kZ gP eC) <| zA jN [] [[(jB a10)]] rfl kZ gP by52 (hbig := by exact (by simp +zetaDelta [maxLen] <;> omega)) (hbig' := by exact (by simp +zetaDelta <;> omega)) <| zM <| zF) ?_
 refine kx [(8, (kD 2))] [] (zM <| zE (qP 2 (hr := by decide)) <| zM <| zZ) ?_
 refine jI (jT.refl _) ?_
 refine jA <| jA <| kx [(15, (vb false))] [] (zM <| zM <| zE (yK kZ 2) <| zE (qL false qI) <| zZ) ?_
 refine kG ?_
 refine kB <| jA <| kx [(6, (.own 0 52 1 ([[(jB a10)]].length)))] [] (zM <| zM <| zZ) ?_
 refine kJ (uV (t := 6) (k := 0) (es := List.map jN [[(jB a10)]]) rfl rfl (vK _ _ (fun _ => rfl)) (uS _ _ rfl) (xG _ _ (fun _ => rfl) rfl)) ?_
 refine jJ ⟨_, (.tmp (d := (.sl 52 1 (List.map jN [[(jB a10)]]))) rfl .nil), ?_⟩
 rfl
theorem g_det2 (a00 a01 a10 a11 : Rat) (eQ : QL a00 1000000) (cM : QL a01 1000000) (mB : QL a10 1000000) (cT : QL a11 1000000) : kH Tryz.prog 18 [(.sl 52 1 (List.map jN [[(jB a00), (jB a01)], [(jB a10), (jB a11)]]))] (jM (jB (kM a00 a01 a10 a11))) := by
 let y1 := (bx (jM (kC.mk (jK.mk false []) (jK.mk false []))))
 refine jP Tryz.func18 rfl cb18 rfl ?_
 show uK _ _ _ _ ⟨[(0, (vl 52 1 jN [[(jB a00), (jB a01)], [(jB a10), (jB a11)]]))], []⟩
 refine jA <| kx [(2, (.ref 0 0))] [(0, some y1)] (zN (qW 0 qA qH) <| zZ) ?_
 refine jA <| jA <| kx [(8, (vb false))] [] (zM <| zE (yK kZ 2) <| zE cB <| zZ) ?_
 refine kG ?_
 refine jE <| jA ?_
 have bn1 : QL ((0 : Int) : Rat) 3 := (qi 0)
 refine kx [(3, (.ref 1 0))] [(1, some (bx (jM (jB ((0 : Int) : Rat)))))] (zE (kA (g_whole5 ((0 : Nat) : Int) (by omega) (by omega))) <| zN (qW 1 qA qH) <| zT (kW jO) <| zZ) ?_
 refine jA <| jA <| kx [(4, (kD 0))] [] (zM <| zZ) ?_
 refine jF <| kN 20 ?_
 refine kU <| jA <| jA <| kx [(18, (vb true))] [] (zM <| zM <| zE (yK kZ 2) <| zE (qL true qI) <| zZ) ?_
 refine jS ?_
 refine jE <| jA <| jF <| jA <| jA <| kx [(28, (vb ((uI a00) == ((0 : Nat) : Int))))] [] (zM <| zE (vM kZ 0) <| zE (xX yB) <| zM <| zE (vM qF 0) <| zE (nL jO) <| zE (kA (gQ (jB a00) a00 (jX (jY eQ) (by decide)))) <| zE cB <| zZ) ?_
 refine jV (b := ((uI a00) == ((0 : Nat) : Int))) rfl (fun h1 => ?_) (fun h1 => ?_)
 ·replace h1 := eq_of_beq h1
  refine kB <| kx [(4, (kD 1))] [] (zM <| zE (qP 1 (hr := by decide)) <| zM <| zZ) ?_
  refine jI (jT.refl _) ?_
  refine jA <| jA <| kx [(18, (vb true))] [] (zM <| zM <| zE (yK kZ 2) <| zE (qL true qI) <| zZ) ?_
  refine jS ?_
  refine jE <| jA <| jF <| jA <| jA <| kx [(28, (vb ((uI a01) == ((0 : Nat) : Int))))] [] (zM <| zE (vM kZ 0) <| zE (xX yB) <| zM <| zE (vM qF 1) <| zE (nL jO) <| zE (kA (gQ (jB a01) a01 (jX (jY cM) (by decide)))) <| zE cB <| zZ) ?_
  refine jV (b := ((uI a01) == ((0 : Nat) : Int))) rfl (fun h2 => ?_) (fun h2 => ?_)
  ·replace h2 := eq_of_beq h2
   refine kB <| kx [(4, (kD 2))] [] (zM <| zE (qP 2 (hr := by decide)) <| zM <| zZ) ?_
   refine jI (jT.refl _) ?_
   refine jA <| jA <| kx [(18, (vb false))] [] (zM <| zM <| zE (yK kZ 2) <| zE (qL false qI) <| zZ) ?_
   refine kG ?_
   refine kB <| jA <| kx [] [(0, some (bx (jM (jB ((0 : Int) : Rat)))))] (zR (kF jO) <| zT (kW jO) <| zZ) ?_
   refine jJ ⟨_, (qC (cs := (bx (jM (jB ((0 : Int) : Rat))))) (d := (jM (jB ((0 : Int) : Rat)))) rfl rfl jO rfl rfl .nil), ?_⟩
   rw [← det2_tt (sgt h1) (sgt h2)]; rfl
  ·replace h2 := ne_of_beq_false h2
   refine jE <| jA <| kd [(5, (.ref 2 0))] [(2, some (bx (jM (jB (a01 * a10)))))] mo (wM <| wE (vM kZ 0) <| wE (xX yB) <| wM <| wE (vM qF 1) <| wE (nL jO) <| wM <| wM <| wE (kA (g_min2_1 a00 a01 a10 a11 (qu eQ) (qu cM) (qu mB) (qu cT))) <| wE (kA (g_det1 a10 (qu mB))) <| wE (kA (mZ (jB a01) (jB a10) a01 a10 (jX (jY cM) (by decide)) (jX (jY mB) (by decide)))) <| wN (qW 2 qA qH) <| wT (kW jO) <| wZ) ?_
   refine jA <| jA <| kx [(42, (vb true))] [] (zM <| zE (iM 1 (hr := by decide)) <| zE cB <| zZ) ?_
   refine jS ?_
   have bn2 : QL (-(a01 * a10)) 2000000 := (ql_neg (jD (k := 2000000) cM mB (by decide)))
   refine kx [] [(2, some (bx (jM (jB (-(a01 * a10))))))] (zR (kF jO) <| zE (kA (g_neg (jB (a01 * a10)) (a01 * a10) (jX (jY (jD (k := 2000000) cM mB (by decide))) (by decide)))) <| zT (kW jO) <| zZ) ?_
   refine kx [] [(1, some (bx (jM (jB (((0 : Int) : Rat) + (-(a01 * a10)))))))] (zR (kF jO) <| zR (kF jO) <| zE (kA (eA (jB ((0 : Int) : Rat)) (jB (-(a01 * a10))) ((0 : Int) : Rat) (-(a01 * a10)) (jX (jY bn1) (by decide)) (jX (jY bn2) (by decide)))) <| zT (kW jO) <| zZ) ?_
   refine kx [(4, (kD 2))] [] (zM <| zE (qP 2 (hr := by decide)) <| zM <| zZ) ?_
   refine jI (jT.refl _) ?_
   refine jA <| jA <| kJ (wk (l := [(0, (vl 52 1 jN [[(jB a00), (jB a01)], [(jB a10), (jB a11)]])), (2, (.ref 0 0)), (3, (.ref 1 0)), (4, (kD 2))]) (b := [(0, some y1), (1, some (bx (jM (jB (((0 : Int) : Rat) + (-(a01 * a10)))))))])) ?_
   refine kx [(18, (vb false))] [] (zM <| zM <| zE (yK kZ 2) <| zE (qL false qI) <| zZ) ?_
   refine kG ?_
   refine kB <| jA <| kx [] [(0, some (bx (jM (jB (((0 : Int) : Rat) + (-(a01 * a10)))))))] (zR (kF jO) <| zT (kW jO) <| zZ) ?_
   refine jJ ⟨_, (qC (cs := (bx (jM (jB (((0 : Int) : Rat) + (-(a01 * a10))))))) (d := (jM (jB (((0 : Int) : Rat) + (-(a01 * a10)))))) rfl rfl jO rfl rfl .nil), ?_⟩
   rw [← det2_tf (sgt h1) (sgf h2)]; rfl
 ·replace h1 := ne_of_beq_false h1
  refine jE <| jA <| kd [(5, (.ref 3 0))] [(3, some (bx (jM (jB (a00 * a11)))))] mo (wM <| wE (vM kZ 0) <| wE (xX yB) <| wM <| wE (vM qF 0) <| wE (nL jO) <| wM <| wM <| wE (kA (g_min2_0 a00 a01 a10 a11 (qu eQ) (qu cM) (qu mB) (qu cT))) <| wE (kA (g_det1 a11 (qu cT))) <| wE (kA (mZ (jB a00) (jB a11) a00 a11 (jX (jY eQ) (by decide)) (jX (jY cT) (by decide)))) <| wN (qW 3 qA qH) <| wT (kW jO) <| wZ) ?_
  refine jA <| jA <| kx [(42, (vb false))] [] (zM <| zE (iM 0 (hr := by decide)) <| zE cB <| zZ) ?_
  refine kG ?_
  refine jE ?_
  have bn3 : QL (((0 : Int) : Rat) + (a00 * a11)) 2000004 := (kE (k := 2000004) bn1 (jD (k := 2000000) eQ cT (by decide)) (by decide))
  refine kx [] [(1, some (bx (jM (jB (((0 : Int) : Rat) + (a00 * a11))))))] (zR (kF jO) <| zR (kF jO) <| zE (kA (eA (jB ((0 : Int) : Rat)) (jB (a00 * a11)) ((0 : Int) : Rat) (a00 * a11) (jX (jY bn1) (by decide)) (jX (jY (jD (k := 2000000) eQ cT (by decide))) (by decide)))) <| zT (kW jO) <| zZ) ?_
  refine kx [(4, (kD 1))] [] (zM <| zE (qP 1 (hr := by decide)) <| zM <| zZ) ?_
  refine jI (jT.refl _) ?_
  refine jA <| jA <| kx [(18, (vb true))] [] (zM <| zM <| zE (yK kZ 2) <| zE (qL true qI) <| zZ) ?_
  refine jS ?_
  refine jE <| jA <| jF <| jA <| jA <| kx [(28, (vb ((uI a01) == ((0 : Nat) : Int))))] [] (zM <| zE (vM kZ 0) <| zE (xX yB) <| zM <| zE (vM qF 1) <| zE (nL jO) <| zE (kA (gQ (jB a01) a01 (jX (jY cM) (by decide)))) <| zE cB <| zZ) ?_
  refine jV (b := ((uI a01) == ((0 : Nat) : Int))) rfl (fun h3 => ?_) (fun h3 => ?_)
  ·replace h3 := eq_of_beq h3
   refine kB <| kx [(4, (kD 2))] [] (zM <| zE (qP 2 (hr := by decide)) <| zM <| zZ) ?_
   refine jI (jT.refl _) ?_
   refine jA <| jA <| kx [(18, (vb false))] [] (zM <| zM <| zE (yK kZ 2) <| zE (qL false qI) <| zZ) ?_
   refine kG ?_
   refine kB <| jA <| kJ (wk (l := [(0, (vl 52 1 jN [[(jB a00), (jB a01)], [(jB a10), (jB a11)]])), (2, (.ref 0 0)), (3, (.ref 1 0)), (4, (kD 2)), (18, (vb false))]) (b := [(0, some y1), (1, some (bx (jM (jB (((0 : Int) : Rat) + (a00 * a11))))))])) ?_
   refine kx [] [(0, some (bx (jM (jB (((0 : Int) : Rat) + (a00 * a11))))))] (zR (kF jO) <| zT (kW jO) <| zZ) ?_
   refine jJ ⟨_, (qC (cs := (bx (jM (jB (((0 : Int) : Rat) + (a00 * a11)))))) (d := (jM (jB (((0 : Int) : Rat) + (a00 * a11))))) rfl rfl jO rfl rfl .nil), ?_⟩
   rw [← det2_ft (sgf h1) (sgt h3)]; rfl
  ·replace h3 := ne_of_beq_false h3
   refine jE <| jA <| kd [(5, (.ref 4 0))] [(4, some (bx (jM (jB (a01 * a10)))))] mo (wM <| wE (vM kZ 0) <| wE (xX yB) <| wM <| wE (vM qF 1) <| wE (nL jO) <| wM <| wM <| wE (kA (g_min2_1 a00 a01 a10 a11 (qu eQ) (qu cM) (qu mB) (qu cT))) <| wE (kA (g_det1 a10 (qu mB))) <| wE (kA (mZ (jB a01) (jB a10) a01 a10 (jX (jY cM) (by decide)) (jX (jY mB) (by decide)))) <| wN (qW 4 qA qH) <| wT (kW jO) <| wZ) ?_
   refine jA <| jA <| kx [(42, (vb true))] [] (zM <| zE (iM 1 (hr := by decide)) <| zE cB <| zZ) ?_
   refine jS ?_
   refine kJ (wk (l := [(0, (vl 52 1 jN [[(jB a00), (jB a01)], [(jB a10), (jB a11)]])), (2, (.ref 0 0)), (3, (.ref 1 0)), (4, (kD 1)), (5, (.ref 4 0)), (42, (vb true))]) (b := [(0, some y1), (1, some (bx (jM (jB (((0 : Int) : Rat) + (a00 * a11)))))), (4, some (bx (jM (jB (a01 * a10)))))])) ?_
   have bn4 : QL (-(a01 * a10)) 2000000 := (ql_neg (jD (k := 2000000) cM mB (by decide)))
   refine kx [] [(4, some (bx (jM (jB (-(a01 * a10))))))] (zR (kF jO) <| zE (kA (g_neg (jB (a01 * a10)) (a01 * a10) (jX (jY (jD (k := 2000000) cM mB (by decide))) (by decide)))) <| zT (kW jO) <| zZ) ?_
   refine kx [] [(1, some (bx (jM (jB ((((0 : Int) : Rat) + (a00 * a11)) + (-(a01 * a10)))))))] (zR (kF jO) <| zR (kF jO) <| zE (kA (eA (jB (((0 : Int) : Rat) + (a00 * a11))) (jB (-(a01 * a10))) (((0 : Int) : Rat) + (a00 * a11)) (-(a01 * a10)) (jX (jY bn3) (by decide)) (jX (jY bn4) (by decide)))) <| zT (kW jO) <| zZ) ?_
   refine kx [(4, (kD 2))] [] (zM <| zE (qP 2 (hr := by decide)) <| zM <| zZ) ?_
   refine jI (jT.refl _) ?_
   refine jA <| jA <| kx [(18, (vb false))] [] (zM <| zM <| zE (yK kZ 2) <| zE (qL false qI) <| zZ) ?_
   refine kG ?_
   refine kB <| jA <| kx [] [(0, some (bx (jM (jB ((((0 : Int) : Rat) + (a00 * a11)) + (-(a01 * a10)))))))] (zR (kF jO) <| zT (kW jO) <| zZ) ?_
   refine jJ ⟨_, (qC (cs := (bx (jM (jB ((((0 : Int) : Rat) + (a00 * a11)) + (-(a01 * a10))))))) (d := (jM (jB ((((0 : Int) : Rat) + (a00 * a11)) + (-(a01 * a10)))))) rfl rfl jO rfl rfl .nil), ?_⟩
   rw [← det2_ff (sgf h1) (sgf h3)]; rfl
theorem g_min3_0 (a00 a01 a02 a10 a11 a12 a20 a21 a22 : Rat) (eQ : QL a00 1000000) (cM : QL a01 1000000) (eE : QL a02 1000000) (mB : QL a10 1000000) (cT : QL a11 1000000) (ha12 : QL a12 1000000) (fX : QL a20 1000000) (aX : QL a21 1000000) (ha22 : QL a22 1000000) : kH Tryz.prog 87 [(.sl 52 1 (List.map jN [[(jB a00), (jB a01), (jB a02)], [(jB a10), (jB a11), (jB a12)], [(jB a20), (jB a21), (jB a22)]])), (.val (.int .i64 (((0 : Nat) : Int)))), (.val (.int .i64 (((0 : Nat) : Int))))] (.sl 52 1 (List.map jN [[(jB a11), (jB a12)], [(jB a21), (jB a22)]])) := by
 refine jP Tryz.func87 rfl cb87 rfl ?_
 show uK _ _ _ _ ⟨[(0, (vl 52 1 jN [[(jB a00), (jB a01), (jB a02)], [(jB a10), (jB a11), (jB a12)], [(jB a20), (jB a21), (jB a22)]])), (1, (kD 0)), (2, (kD 0))], []⟩
 refine jA <| kx [] [] (zE (oNl 52 1) <| zZ) ?_
 refine jA <| kx [(7, (.own 0 52 1 0))] [(0, some (bm jN []))] (zN (oBo 0 kZ gP eC) <| zM <| zZ) ?_
 refine jA <| jA <| kx [(8, (kD 0))] [] (zM <| zZ) ?_
 refine jF <| kN 20 ?_
 refine kU <| jA <| jA <| kx [(15, (vb true))] [] (zM <| zM <| zE (yK kZ 3) <| zE (qL true qI) <| zZ) ?_
 refine jS ?_
 refine jE <| jA <| jF <| jA <| jA <| kx [(20, (vb true))] [] (zM <| zM <| zE cB <| zZ) ?_
 refine jS ?_
 refine kB <| kx [(8, (kD 1))] [] (zM <| zE (qP 1 (hr := by decide)) <| zM <| zZ) ?_
 refine jI (jT.refl _) ?_
 refine jA <| jA <| kx [(15, (vb true))] [] (zM <| zM <| zE (yK kZ 3) <| zE (qL true qI) <| zZ) ?_
 refine jS ?_
 refine jE <| jA <| jF <| jA <| jA <| kx [(20, (vb false))] [] (zM <| zM <| zE cB <| zZ) ?_
 refine kG ?_
 refine jE <| jA <| kx [(9, (.own 1 42 4 0))] [(1, some (cH jM []))] (zH (oBo 1 qF qA qH) <| zM <| zZ) ?_
 refine jA <| jA <| kx [(10, (kD 0))] [] (zM <| zZ) ?_
 refine jF <| kN 20 ?_
 refine kU <| jA <| jA <| kx [(25, (vb true))] [] (zM <| zM <| zE (yK kZ 3) <| zE (qL true qI) <| zZ) ?_
 refine jS ?_
 refine jE <| jA <| jF <| jA <| kx [(30, (vb false))] [] (zM <| zM <| zE mE <| zZ) ?_
 refine kG ?_
 refine jE <| kx [(10, (kD 1))] [] (zM <| zE (qP 1 (hr := by decide)) <| zM <| zZ) ?_
 refine jI (jT.refl _) ?_
 refine jA <| jA <| kx [(25, (vb true))] [] (zM <| zM <| zE (yK kZ 3) <| zE (qL true qI) <| zZ) ?_
 refine jS ?_
 refine jE <| jA <| jF <| jA <| kJ (wk (l := [(0, (vl 52 1 jN [[(jB a00), (jB a01), (jB a02)], [(jB a10), (jB a11), (jB a12)], [(jB a20), (jB a21), (jB a22)]])), (1, (kD 0)), (2, (kD 0)), (7, (.own 0 52 1 0)), (8, (kD 1)), (9, (.own 1 42 4 0)), (10, (kD 1)), (25, (vb true))]) (b := [(0, some (bm jN [])), (1, some (cH jM []))])) ?_
 refine kx [(30, (vb true))] [] (zM <| zM <| zE mE <| zZ) ?_
 refine jS ?_
 refine kf [(9, (.own 1 42 4 ([(jB a11)].length)))] [(1, some (cH jM [(jB a11)]))] (zM <| zM <| zM <| zE (vM kZ 1) <| zE (xX yB) <| zM <| zE (vM qF 1) <| zE (nL jO) <| zE (nO qF qA qH) <| zAS jM [] [(jB a11)] rfl qF qA cR (hbig := by exact (by simp +zetaDelta [maxLen] <;> omega)) (hbig' := by exact (by simp +zetaDelta <;> omega)) <| zM <| zF) ?_
 refine kx [(10, (kD 2))] [] (zM <| zE (qP 2 (hr := by decide)) <| zM <| zZ) ?_
 refine jI (jT.refl _) ?_
 refine jA <| jA <| kx [(25, (vb true))] [] (zM <| zM <| zE (yK kZ 3) <| zE (qL true qI) <| zZ) ?_
 refine jS ?_
 refine jE <| jA <| jF <| jA <| kx [(30, (vb true))] [] (zM <| zM <| zE mE <| zZ) ?_
 refine jS ?_
 refine kf [(9, (.own 1 42 4 ([(jB a11), (jB a12)].length)))] [(1, some (cH jM [(jB a11), (jB a12)]))] (zM <| zM <| zM <| zE (vM kZ 1) <| zE (xX yB) <| zM <| zE (vM qF 2) <| zE (nL jO) <| zE (nO qF qA qH) <| zAS jM [(jB a11)] [(jB a12)] rfl qF qA cR (hbig := by exact (by simp +zetaDelta [maxLen] <;> omega)) (hbig' := by exact (by simp +zetaDelta <;> omega)) <| zM <| zF) ?_
 refine kx [(10, (kD 3))] [] (zM <| zE (qP 3 (hr := by decide)) <| zM <| zZ) ?_
 refine jI (jT.refl _) ?_
 refine jA <| jA <| kx [(25, (vb false))] [] (zM <| zM <| zE (yK kZ 3) <| zE (qL false qI) <| zZ) ?_
 refine kG ?_
 refine kB <| kJ (uV (t := 9) (k := 1) (es := List.map jM [(jB a11), (jB a12)]) rfl rfl (vY _ _ (fun _ => rfl)) (uS _ _ rfl) (yS jM [(jB a11), (jB a12)] (fun _ => rfl) rfl)) ?_
 refine kf [(7, (.own 0 52 1 ([[(jB a11), (jB a12)]].length)))] [(0, some (bm jN [[(jB a11), (jB a12)]]))] (zM <| zM <| zE (nO kZ gP eC) <| zA jN [] [[(jB a11), (jB a12)]] rfl kZ gP by52 (hbig := by exact (by simp +zetaDelta [maxLen] <;> omega)) (hbig' := by exact (by simp +zetaDelta <;> omega)) <| zM <| zF) ?_
 refine kx [(8, (kD 2))] [] (zM <| zE (qP 2 (hr := by decide)) <| zM <| zZ) ?_
 refine jI (jT.refl _) ?_
 refine jA <| jA <| kx [(15, (vb true))] [] (zM <| zM <| zE (yK kZ 3) <| zE (qL true qI) <| zZ) ?_
 refine jS ?_
 refine jE <| jA <| jF <| jA <| jA <| kx [(20, (vb false))] [] (zM <| zM <| zE cB <| zZ) ?_
 refine kG ?_
 refine jE <| jA <| kx [(9, (.own 2 42 4 0))] [(2, some (cH jM []))] (zH (oBo 2 qF qA qH) <| zM <| zZ) ?_
 refine jA <| jA <| kx [(10, (kD 0))] [] (zM <| zZ) ?_
 refine jF <| kN 20 ?_
 refine kU <| jA <| jA <| kJ (wk (l := [(0, (vl 52 1 jN [[(jB a00), (jB a01), (jB a02)], [(jB a10), (jB a11), (jB a12)], [(jB a20), (jB a21), (jB a22)]])), (1, (kD 0)), (2, (kD 0)), (7, (.own 0 52 1 ([[(jB a11), (jB a12)]].length))), (8, (kD 2)), (9, (.own 2 42 4 0)), (10, (kD 0))]) (b := [(0, some (bm jN [[(jB a11), (jB a12)]])), (2, some (cH jM []))])) ?_
 refine kx [(25, (vb true))] [] (zM <| zM <| zE (yK kZ 3) <| zE (qL true qI) <| zZ) ?_
 refine jS ?_
 refine jE <| jA <| jF <| jA <| kx [(30, (vb false))] [] (zM <| zM <| zE mE <| zZ) ?_
 refine kG ?_
 refine jE <| kx [(10, (kD 1))] [] (zM <| zE (qP 1 (hr := by decide)) <| zM <| zZ) ?_
 refine jI (jT.refl _) ?_
 refine jA <| jA <| kx [(25, (vb true))] [] (zM <| zM <| zE (yK kZ 3) <| zE (qL true qI) <| zZ) ?_
 refine jS ?_
 refine jE <| jA <| jF <| jA <| kx [(30, (vb true))] [] (zM <| zM <| zE mE <| zZ) ?_
 refine jS ?_
 refine kf [(9, (.own 2 42 4 ([(jB a21)].length)))] [(2, some (cH jM [(jB a21)]))] (zM <| zM <| zM <| zE (vM kZ 2) <| zE (xX yB) <| zM <| zE (vM qF 1) <| zE (nL jO) <| zE (nO qF qA qH) <| zAS jM [] [(jB a21)] rfl qF qA cR (hbig := by exact (by simp +zetaDelta [maxLen] <;> omega)) (hbig' := by exact (by simp +zetaDelta <;> omega)) <| zM <| zF) ?_
 refine kx [(10, (kD 2))] [] (zM <| zE (qP 2 (hr := by decide)) <| zM <| zZ) ?_
 refine jI (jT.refl _) ?_
 refine jA <| jA <| kx [(25, (vb true))] [] (zM <| zM <| zE (yK kZ 3) <| zE (qL true qI) <| zZ) ?_
 refine jS ?_
 refine jE <| jA <| jF <| jA <| kx [(30, (vb true))] [] (zM <| zM <| zE mE <| zZ) ?_
 refine jS ?_
 refine kf [(9, (.own 2 42 4 ([(jB a21), (jB a22)].length)))] [(2, some (cH jM [(jB a21), (jB a22)]))] (zM <| zM <| zM <| zE (vM kZ 2) <| zE (xX yB) <| zM <| zE (vM qF 2) <| zE (nL jO) <| zE (nO qF qA qH) <| zAS jM [(jB a21)] [(jB a22)] rfl qF qA cR (hbig := by exact (by simp +zetaDelta [maxLen] <;> omega)) (hbig' := by exact (by simp +zetaDelta <;> omega)) <| zM <| zF) ?_
 refine kx [(10, (kD 3))] [] (zM <| zE (qP 3 (hr := by decide)) <| zM <| zZ) ?_
 refine jI (jT.refl _) ?_
 refine jA <| jA <| kx [(25, (vb false))] [] (zM <| zM <| zE (yK kZ 3) <| zE (qL false qI) <| zZ) ?_
 refine kG ?_
 refine kB <| kJ (uV (t := 9) (k := 2) (es := List.map jM [(jB a21), (jB a22)]) rfl rfl (vY _ _ (fun _ => rfl)) (uS _ _ rfl) (yS jM [(jB a21), (jB a22)] (fun _ => rfl) rfl)) ?_
 refine kf [(7, (.own 0 52 1 ([[(jB a11), (jB a12)], [(jB a21), (jB a22)]].length)))] [(0, some (bm jN [[(jB a11), (jB a12)], [(jB a21), (jB a22)]]))] (zM <| zM <| zE (nO kZ gP eC) <| zA jN [[(jB a11), (jB a12)]] [[(jB a21), (jB a22)]] rfl kZ gP by52 (hbig := by exact (by simp +zetaDelta [maxLen] <;> omega)) (hbig' := by exact (by simp +zetaDelta <;> omega)) <| zM <| zF) ?_
 refine kx [(8, (kD 3))] [] (zM <| zE (qP 3 (hr := by decide)) <| zM <| zZ) ?_
 refine jI (jT.refl _) ?_
 refine jA <| jA <| kJ (wk (l := [(0, (vl 52 1 jN [[(jB a00), (jB a01), (jB a02)], [(jB a10), (jB a11), (jB a12)], [(jB a20), (jB a21), (jB a22)]])), (1, (kD 0)), (2, (kD 0)), (7, (.own 0 52 1 ([[(jB a11), (jB a12)], [(jB a21), (jB a22)]].length))), (8, (kD 3))]) (b := [(0, some (bm jN [[(jB a11), (jB a12)], [(jB a21), (jB a22)]]))])) ?_
 refine kx [(15, (vb false))] [] (zM <| zM <| zE (yK kZ 3) <| zE (qL false qI) <| zZ) ?_
 refine kG ?_
 refine kB <| jA <| kx [(6, (.own 0 52 1 ([[(jB a11), (jB a12)], [(jB a21), (jB a22)]].length)))] [] (zM <| zM <| zZ) ?_
 refine kJ (uV (t := 6) (k := 0) (es := List.map jN [[(jB a11), (jB a12)], [(jB a21), (jB a22)]]) rfl rfl (vK _ _ (fun _ => rfl)) (uS _ _ rfl) (xG _ _ (fun _ => rfl) rfl)) ?_
 refine jJ ⟨_, (.tmp (d := (.sl 52 1 (List.map jN [[(jB a11), (jB a12)], [(jB a21), (jB a22)]]))) rfl .nil), ?_⟩
 rfl
theorem g_min3_1 (a00 a01 a02 a10 a11 a12 a20 a21 a22 : Rat) (eQ : QL a00 1000000) (cM : QL a01 1000000) (eE : QL a02 1000000) (mB : QL a10 1000000) (cT : QL a11 1000000) (ha12 : QL a12 1000000) (fX : QL a20 1000000) (aX : QL a21 1000000) (ha22 : QL a22 1000000) : kH Tryz.prog 87 [(.sl 52 1 (List.map jN [[(jB a00), (jB a01), (jB a02)], [(jB a10), (jB a11), (jB a12)], [(jB a20), (jB a21), (jB a22)]])), (.val (.int .i64 (((0 : Nat) : Int)))), (.val (.int .i64 (((1 : Nat) : Int))))] (.sl 52 1 (List.map jN [[(jB a10), (jB a12)], [(jB a20), (jB a22)]])) := by
 refine jP Tryz.func87 rfl cb87 rfl ?_
 show uK _ _ _ _ ⟨[(0, (vl 52 1 jN [[(jB a00), (jB a01), (jB a02)], [(jB a10), (jB a11), (jB a12)], [(jB a20), (jB a21), (jB a22)]])), (1, (kD 0)), (2, (kD 1))], []⟩
 refine jA <| kx [] [] (zE (oNl 52 1) <| zZ) ?_
 refine jA <| kx [(7, (.own 0 52 1 0))] [(0, some (bm jN []))] (zN (oBo 0 kZ gP eC) <| zM <| zZ) ?_
 refine jA <| jA <| kx [(8, (kD 0))] [] (zM <| zZ) ?_
 refine jF <| kN 20 ?_
 refine kU <| jA <| jA <| kx [(15, (vb true))] [] (zM <| zM <| zE (yK kZ 3) <| zE (qL true qI) <| zZ) ?_
 refine jS ?_
 refine jE <| jA <| jF <| jA <| jA <| kx [(20, (vb true))] [] (zM <| zM <| zE cB <| zZ) ?_
 refine jS ?_
 refine kB <| kx [(8, (kD 1))] [] (zM <| zE (qP 1 (hr := by decide)) <| zM <| zZ) ?_
 refine jI (jT.refl _) ?_
 refine jA <| jA <| kx [(15, (vb true))] [] (zM <| zM <| zE (yK kZ 3) <| zE (qL true qI) <| zZ) ?_
 refine jS ?_
 refine jE <| jA <| jF <| jA <| jA <| kx [(20, (vb false))] [] (zM <| zM <| zE cB <| zZ) ?_
 refine kG ?_
 refine jE <| jA <| kx [(9, (.own 1 42 4 0))] [(1, some (cH jM []))] (zH (oBo 1 qF qA qH) <| zM <| zZ) ?_
 refine jA <| jA <| kx [(10, (kD 0))] [] (zM <| zZ) ?_
 refine jF <| kN 20 ?_
 refine kU <| jA <| jA <| kx [(25, (vb true))] [] (zM <| zM <| zE (yK kZ 3) <| zE (qL true qI) <| zZ) ?_
 refine jS ?_
 refine jE <| jA <| jF <| jA <| kx [(30, (vb true))] [] (zM <| zM <| zE mE <| zZ) ?_
 refine jS ?_
 refine kf [(9, (.own 1 42 4 ([(jB a10)].length)))] [(1, some (cH jM [(jB a10)]))] (zM <| zM <| zM <| zE (vM kZ 1) <| zE (xX yB) <| zM <| zE (vM qF 0) <| zE (nL jO) <| zE (nO qF qA qH) <| zAS jM [] [(jB a10)] rfl qF qA cR (hbig := by exact (by simp +zetaDelta [maxLen] <;> omega)) (hbig' := by exact (by simp +zetaDelta <;> omega)) <| zM <| zF) ?_
 refine kx [(10, (kD 1))] [] (zM <| zE (qP 1 (hr := by decide)) <| zM <| zZ) ?_
 refine jI (jT.refl _) ?_
 refine jA <| jA <| kJ (wk (l := [(0, (vl 52 1 jN [[(jB a00), (jB a01), (jB a02)], [(jB a10), (jB a11), (jB a12)], [(jB a20), (jB a21), (jB a22)]])), (1, (kD 0)), (2, (kD 1)), (7, (.own 0 52 1 0)), (8, (kD 1)), (9, (.own 1 42 4 ([(jB a10)].length))), (10, (kD 1))]) (b := [(0, some (bm jN [])), (1, some (cH jM [(jB a10)]))])) ?_
 refine kx [(25, (vb true))] [] (zM <| zM <| zE (yK kZ 3) <| zE (qL true qI) <| zZ) ?_
 refine jS ?_
 refine jE <| jA <| jF <| jA <| kx [(30, (vb false))] [] (zM <| zM <| zE mE <| zZ) ?_
 refine kG ?_
 refine jE <| kx [(10, (kD 2))] [] (zM <| zE (qP 2 (hr := by decide)) <| zM <| zZ) ?_
 refine jI (jT.refl _) ?_
 refine jA <| jA <| kx [(25, (vb true))] [] (zM <| zM <| zE (yK kZ 3) <| zE (qL true qI) <| zZ) ?_
 refine jS ?_
 refine jE <| jA <| jF <| jA <| kx [(30, (vb true))] [] (zM <| zM <| zE mE <| zZ) ?_
 refine jS ?_
 refine kf [(9, (.own 1 42 4 ([(jB a10), (jB a12)].length)))] [(1, some (cH jM [(jB a10), (jB a12)]))] (zM <| zM <| zM <| zE (vM kZ 1) <| zE (xX yB) <| zM <| zE (vM qF 2) <| zE (nL jO) <| zE (nO qF qA qH) <| zAS jM [(jB a10)] [(jB a12)] rfl qF qA cR (hbig := by exact (by simp +zetaDelta [maxLen] <;> omega)) (hbig' := by exact (by simp +zetaDelta <;> omega)) <| zM <| zF) ?_
 refine kx [(10, (kD 3))] [] (zM <| zE (qP 3 (hr := by decide)) <| zM <| zZ) ?_
 refine jI (jT.refl _) ?_
 refine jA <| jA <| kx [(25, (vb false))] [] (zM <| zM <| zE (yK kZ 3) <| zE (qL false qI) <| zZ) ?_
 refine kG ?_
 refine kB <| kJ (uV (t := 9) (k := 1) (es := List.map jM [(jB a10), (jB a12)]) rfl rfl (vY _ _ (fun _ => rfl)) (uS _ _ rfl) (yS jM [(jB a10), (jB a12)] (fun _ => rfl) rfl)) ?_
 refine kf [(7, (.own 0 52 1 ([[(jB a10), (jB a12)]].length)))] [(0, some (bm jN [[(jB a10), (jB a12)]]))] (zM <| zM <| zE (nO kZ gP eC) <| zA jN [] [[(jB a10), (jB a12)]] rfl kZ gP by52 (hbig := by exact (by simp +zetaDelta [maxLen] <;> omega)) (hbig' := by exact (by simp +zetaDelta <;> omega)) <| zM <| zF) ?_
 refine kx [(8, (kD 2))] [] (zM <| zE (qP 2 (hr := by decide)) <| zM <| zZ) ?_
 refine jI (jT.refl _) ?_
 refine jA <| jA <| kx [(15, (vb true))] [] (zM <| zM <| zE (yK kZ 3) <| zE (qL true qI) <| zZ) ?_
 refine jS ?_
 refine jE <| jA <| jF <| jA <| jA <| kx [(20, (vb false))] [] (zM <| zM <| zE cB <| zZ) ?_
 refine kG ?_
 refine jE <| jA <| kx [(9, (.own 2 42 4 0))] [(2, some (cH jM []))] (zH (oBo 2 qF qA qH) <| zM <| zZ) ?_
 refine jA <| jA <| kx [(10, (kD 0))] [] (zM <| zZ) ?_
 refine jF <| kN 20 ?_
 refine kU <| jA <| jA <| kJ (wk (l := [(0, (vl 52 1 jN [[(jB a00), (jB a01), (jB a02)], [(jB a10), (jB a11), (jB a12)], [(jB a20), (jB a21), (jB a22)]])), (1, (kD 0)), (2, (kD 1)), (7, (.own 0 52 1 ([[(jB a10), (jB a12)]].length))), (8, (kD 2)), (9, (.own 2 42 4 0)), (10, (kD 0))]) (b := [(0, some (bm jN [[(jB a10), (jB a12)]])), (2, some (cH jM []))])) ?_
 refine kx [(25, (vb true))] [] (zM <| zM <| zE (yK kZ 3) <| zE (qL true qI) <| zZ) ?_
 refine jS ?_
 refine jE <| jA <| jF <| jA <| kx [(30, (vb true))] [] (zM <| zM <| zE mE <| zZ) ?_
 refine jS ?_
 refine kf [(9, (.own 2 42 4 ([(jB a20)].length)))] [(2, some (cH jM [(jB a20)]))] (zM <| zM <| zM <| zE (vM kZ 2) <| zE (xX yB) <| zM <| zE (vM qF 0) <| zE (nL jO) <| zE (nO qF qA qH) <| zAS jM [] [(jB a20)] rfl qF qA cR (hbig := by exact (by simp +zetaDelta [maxLen] <;> omega)) (hbig' := by exact (by simp +zetaDelta <;> omega)) <| zM <| zF) ?_
 refine kx [(10, (kD 1))] [] (zM <| zE (qP 1 (hr := by decide)) <| zM <| zZ) ?_
 refine jI (jT.refl _) ?_
 refine jA <| jA <| kx [(25, (vb true))] [] (zM <| zM <| zE (yK kZ 3) <| zE (qL true qI) <| zZ) ?_
 refine jS ?_
 refine jE <| jA <| jF <| jA <| kx [(30, (vb false))] [] (zM <| zM <| zE mE <| zZ) ?_
 refine kG ?_
 refine jE <| kx [(10, (kD 2))] [] (zM <| zE (qP 2 (hr := by decide)) <| zM <| zZ) ?_
 refine jI (jT.refl _) ?_
 refine jA <| jA <| kx [(25, (vb true))] [] (zM <| zM <| zE (yK kZ 3) <| zE (qL true qI) <| zZ) ?_
 refine jS ?_
 refine jE <| jA <| jF <| jA <| kx [(30, (vb true))] [] (zM <| zM <| zE mE <| zZ) ?_
 refine jS ?_
 refine kf [(9, (.own 2 42 4 ([(jB a20), (jB a22)].length)))] [(2, some (cH jM [(jB a20), (jB a22)]))] (zM <| zM <| zM <| zE (vM kZ 2) <| zE (xX yB) <| zM <| zE (vM qF 2) <| zE (nL jO) <| zE (nO qF qA qH) <| zAS jM [(jB a20)] [(jB a22)] rfl qF qA cR (hbig := by exact (by simp +zetaDelta [maxLen] <;> omega)) (hbig' := by exact (by simp +zetaDelta <;> omega)) <| zM <| zF) ?_
 refine kx [(10, (kD 3))] [] (zM <| zE (qP 3 (hr := by decide)) <| zM <| zZ) ?_
 refine jI (jT.refl _) ?_
 refine jA <| jA <| kx [(25, (vb false))] [] (zM <| zM <| zE (yK kZ 3) <| zE (qL false qI) <| zZ) ?_
 refine kG ?_
 refine kB <| kJ (uV (t := 9) (k := 2) (es := List.map jM [(jB a20), (jB a22)]) rfl rfl (vY _ _ (fun _ => rfl)) (uS _ _ rfl) (yS jM [(jB a20), (jB a22)] (fun _ => rfl) rfl)) ?_
 refine kf [(7, (.own 0 52 1 ([[(jB a10), (jB a12)], [(jB a20), (jB a22)]].length)))] [(0, some (bm jN [[(jB a10), (jB a12)], [(jB a20), (jB a22)]]))] (zM <| zM <| zE (nO kZ gP eC) <| zA jN [[(jB a10), (jB a12)]] [[(jB a20), (jB a22)]] rfl kZ gP by52 (hbig := by exact (by simp +zetaDelta [maxLen] <;> omega)) (hbig' := by exact (by simp +zetaDelta <;> omega)) <| zM <| zF) ?_
 refine kx [(8, (kD 3))] [] (zM <| zE (qP 3 (hr := by decide)) <| zM <| zZ) ?_
 refine jI (jT.refl _) ?_
 refine jA <| jA <| kJ (wk (l := [(0, (vl 52 1 jN [[(jB a00), (jB a01), (jB a02)], [(jB a10), (jB a11), (jB a12)], [(jB a20), (jB a21), (jB a22)]])), (1, (kD 0)), (2, (kD 1)), (7, (.own 0 52 1 ([[(jB a10), (jB a12)], [(jB a20), (jB a22)]].length))), (8, (kD 3))]) (b := [(0, some (bm jN [[(jB a10), (jB a12)], [(jB a20), (jB a22)]]))])) ?_
 refine kx [(15, (vb false))] [] (zM <| zM <| zE (yK kZ 3) <| zE (qL false qI) <| zZ) ?_
 refine kG ?_
 refine kB <| jA <| kx [(6, (.own 0 52 1 ([[(jB a10), (jB a12)], [(jB a20), (jB a22)]].length)))] [] (zM <| zM <| zZ) ?_
 refine kJ (uV (t := 6) (k := 0) (es := List.map jN [[(jB a10), (jB a12)], [(jB a20), (jB a22)]]) rfl rfl (vK _ _ (fun _ => rfl)) (uS _ _ rfl) (xG _ _ (fun _ => rfl) rfl)) ?_
 refine jJ ⟨_, (.tmp (d := (.sl 52 1 (List.map jN [[(jB a10), (jB a12)], [(jB a20), (jB a22)]]))) rfl .nil), ?_⟩
 rfl
theorem g_min3_2 (a00 a01 a02 a10 a11 a12 a20 a21 a22 : Rat) (eQ : QL a00 1000000) (cM : QL a01 1000000) (eE : QL a02 1000000) (mB : QL a10 1000000) (cT : QL a11 1000000) (ha12 : QL a12 1000000) (fX : QL a20 1000000) (aX : QL a21 1000000) (ha22 : QL a22 1000000) : kH Tryz.prog 87 [(.sl 52 1 (List.map jN [[(jB a00), (jB a01), (jB a02)], [(jB a10), (jB a11), (jB a12)], [(jB a20), (jB a21), (jB a22)]])), (.val (.int .i64 (((0 : Nat) : Int)))), (.val (.int .i64 (((2 : Nat) : Int))))] (.sl 52 1 (List.map jN [[(jB a10), (jB a11)], [(jB a20), (jB a21)]])) := by
 refine jP Tryz.func87 rfl cb87 rfl ?_
 show uK _ _ _ _ ⟨[(0, (vl 52 1 jN [[(jB a00), (jB a01), (jB a02)], [(jB a10), (jB a11), (jB a12)], [(jB a20), (jB a21), (jB a22)]])), (1, (kD 0)), (2, (kD 2))], []⟩
 refine jA <| kx [] [] (zE (oNl 52 1) <| zZ) ?_
 refine jA <| kx [(7, (.own 0 52 1 0))] [(0, some (bm jN []))] (zN (oBo 0 kZ gP eC) <| zM <| zZ) ?_
 refine jA <| jA <| kx [(8, (kD 0))] [] (zM <| zZ) ?_
 refine jF <| kN 20 ?_
 refine kU <| jA <| jA <| kx [(15, (vb true))] [] (zM <| zM <| zE (yK kZ 3) <| zE (qL true qI) <| zZ) ?_
 refine jS ?_
 refine jE <| jA <| jF <| jA <| jA <| kx [(20, (vb true))] [] (zM <| zM <| zE cB <| zZ) ?_
 refine jS ?_
 refine kB <| kx [(8, (kD 1))] [] (zM <| zE (qP 1 (hr := by decide)) <| zM <| zZ) ?_
 refine jI (jT.refl _) ?_
 refine jA <| jA <| kx [(15, (vb true))] [] (zM <| zM <| zE (yK kZ 3) <| zE (qL true qI) <| zZ) ?_
 refine jS ?_
 refine jE <| jA <| jF <| jA <| jA <| kx [(20, (vb false))] [] (zM <| zM <| zE cB <| zZ) ?_
 refine kG ?_
 refine jE <| jA <| kx [(9, (.own 1 42 4 0))] [(1, some (cH jM []))] (zH (oBo 1 qF qA qH) <| zM <| zZ) ?_
 refine jA <| jA <| kx [(10, (kD 0))] [] (zM <| zZ) ?_
 refine jF <| kN 20 ?_
 refine kU <| jA <| jA <| kx [(25, (vb true))] [] (zM <| zM <| zE (yK kZ 3) <| zE (qL true qI) <| zZ) ?_
 refine jS ?_
 refine jE <| jA <| jF <| jA <| kx [(30, (vb true))] [] (zM <| zM <| zE mE <| zZ) ?_
 refine jS ?_
 refine kf [(9, (.own 1 42 4 ([(jB a10)].length)))] [(1, some (cH jM [(jB a10)]))] (zM <| zM <| zM <| zE (vM kZ 1) <| zE (xX yB) <| zM <| zE (vM qF 0) <| zE (nL jO) <| zE (nO qF qA qH) <| zAS jM [] [(jB a10)] rfl qF qA cR (hbig := by exact (by simp +zetaDelta [maxLen] <;> omega)) (hbig' := by exact (by simp +zetaDelta <;> omega)) <| zM <| zF) ?_
 refine kx [(10, (kD 1))] [] (zM <| zE (qP 1 (hr := by decide)) <| zM <| zZ) ?_
 refine jI (jT.refl _) ?_
 refine jA <| jA <| kJ (wk (l := [(0, (vl 52 1 jN [[(jB a00), (jB a01), (jB a02)], [(jB a10), (jB a11), (jB a12)], [(jB a20), (jB a21), (jB a22)]])), (1, (kD 0)), (2, (kD 2)), (7, (.own 0 52 1 0)), (8, (kD 1)), (9, (.own 1 42 4 ([(jB a10)].length))), (10, (kD 1))]) (b := [(0, some (bm jN [])), (1, some (cH jM [(jB a10)]))])) ?_
 refine kx [(25, (vb true))] [] (zM <| zM <| zE (yK kZ 3) <| zE (qL true qI) <| zZ) ?_
 refine jS ?_
 refine jE <| jA <| jF <| jA <| kx [(30, (vb true))] [] (zM <| zM <| zE mE <| zZ) ?_
 refine jS ?_
 refine kf [(9, (.own 1 42 4 ([(jB a10), (jB a11)].length)))] [(1, some (cH jM [(jB a10), (jB a11)]))] (zM <| zM <| zM <| zE (vM kZ 1) <| zE (xX yB) <| zM <| zE (vM qF 1) <| zE (nL jO) <| zE (nO qF qA qH) <| zAS jM [(jB a10)] [(jB a11)] rfl qF qA cR (hbig := by exact (by simp +zetaDelta [maxLen] <;> omega)) (hbig' := by exact (by simp +zetaDelta <;> omega)) <| zM <| zF) ?_
 refine kx [(10, (kD 2))] [] (zM <| zE (qP 2 (hr := by decide)) <| zM <| zZ) ?_
 refine jI (jT.refl _) ?_
 refine jA <| jA <| kx [(25, (vb true))] [] (zM <| zM <| zE (yK kZ 3) <| zE (qL true qI) <| zZ) ?_
 refine jS ?_
 refine jE <| jA <| jF <| jA <| kx [(30, (vb false))] [] (zM <| zM <| zE mE <| zZ) ?_
 refine kG ?_
 refine jE <| kx [(10, (kD 3))] [] (zM <| zE (qP 3 (hr := by decide)) <| zM <| zZ) ?_
 refine jI (jT.refl _) ?_
 refine jA <| jA <| kx [(25, (vb false))] [] (zM <| zM <| zE (yK kZ 3) <| zE (qL false qI) <| zZ) ?_
 refine kG ?_
 refine kB <| kJ (uV (t := 9) (k := 1) (es := List.map jM [(jB a10), (jB a11)]) rfl rfl (vY _ _ (fun _ => rfl)) (uS _ _ rfl) (yS jM [(jB a10), (jB a11)] (fun _ => rfl) rfl)) ?_
 refine kf [(7, (.own 0 52 1 ([[(jB a10), (jB a11)]].length)))] [(0, some (bm jN [[(jB a10), (jB a11)]]))] (zM <| zM <| zE (nO kZ gP eC) <| zA jN [] [[(jB a10), (jB a11)]] rfl kZ gP by52 (hbig := by exact (by simp +zetaDelta [maxLen] <;> omega)) (hbig' := by exact (by simp +zetaDelta <;> omega)) <| zM <| zF) ?_
 refine kx [(8, (kD 2))] [] (zM <| zE (qP 2 (hr := by decide)) <| zM <| zZ) ?_
 refine jI (jT.refl _) ?_
 refine jA <| jA <| kx [(15, (vb true))] [] (zM <| zM <| zE (yK kZ 3) <| zE (qL true qI) <| zZ) ?_
 refine jS ?_
 refine jE <| jA <| jF <| jA <| jA <| kx [(20, (vb false))] [] (zM <| zM <| zE cB <| zZ) ?_
 refine kG ?_
 refine jE <| jA <| kx [(9, (.own 2 42 4 0))] [(2, some (cH jM []))] (zH (oBo 2 qF qA qH) <| zM <| zZ) ?_
 refine jA <| jA <| kx [(10, (kD 0))] [] (zM <| zZ) ?_
 refine jF <| kN 20 ?_
 refine kU <| jA <| jA <| kJ (wk (l := [(0, (vl 52 1 jN [[(jB a00), (jB a01), (jB a02)], [(jB a10), (jB a11), (jB a12)], [(jB a20), (jB a21), (jB a22)]])), (1, (kD 0)), (2, (kD 2)), (7, (.own 0 52 1 ([[(jB a10), (jB a11)]].length))), (8, (kD 2)), (9, (.own 2 42 4 0)), (10, (kD 0))]) (b := [(0, some (bm jN [[(jB a10), (jB a11)]])), (2, some (cH jM []))])) ?_
 refine kx [(25, (vb true))] [] (zM <| zM <| zE (yK kZ 3) <| zE (qL true qI) <| zZ) ?_
 refine jS ?_
 refine jE <| jA <| jF <| jA <| kx [(30, (vb true))] [] (zM <| zM <| zE mE <| zZ) ?_
 refine jS ?_
 refine kf [(9, (.own 2 42 4 ([(jB a20)].length)))] [(2, some (cH jM [(jB a20)]))] (zM <| zM <| zM <| zE (vM kZ 2) <| zE (xX yB) <| zM <| zE (vM qF 0) <| zE (nL jO) <| zE (nO qF qA qH) <| zAS jM [] [(jB a20)] rfl qF qA cR (hbig := by exact (by simp +zetaDelta [maxLen] <;> omega)) (hbig' := by exact (by simp +zetaDelta <;> omega)) <| zM <| zF) ?_
 refine kx [(10, (kD 1))] [] (zM <| zE (qP 1 (hr := by decide)) <| zM <| zZ) ?_
 refine jI (jT.refl _) ?_
 refine jA <| jA <| kx [(25, (vb true))] [] (zM <| zM <| zE (yK kZ 3) <| zE (qL true qI) <| zZ) ?_
 refine jS ?_
 refine jE <| jA <| jF <| jA <| kx [(30, (vb true))] [] (zM <| zM <| zE mE <| zZ) ?_
 refine jS ?_
 refine kf [(9, (.own 2 42 4 ([(jB a20), (jB a21)].length)))] [(2, some (cH jM [(jB a20), (jB a21)]))] (zM <| zM <| zM <| zE (vM kZ 2) <| zE (xX yB) <| zM <| zE (vM qF 1) <| zE (nL jO) <| zE (nO qF qA qH) <| zAS jM [(jB a20)] [(jB a21)] rfl qF qA cR (hbig := by exact (by simp +zetaDelta [maxLen] <;> omega)) (hbig' := by exact (by simp +zetaDelta <;> omega)) <| zM <| zF) ?_
 refine kx [(10, (kD 2))] [] (zM <| zE (qP 2 (hr := by decide)) <| zM <| zZ) ?_
 refine jI (jT.refl _) ?_
 refine jA <| jA <| kx [(25, (vb true))] [] (zM <| zM <| zE (yK kZ 3) <| zE (qL true qI) <| zZ) ?_
 refine jS ?_
 refine jE <| jA <| jF <| jA <| kx [(30, (vb false))] [] (zM <| zM <| zE mE <| zZ) ?_
 refine kG ?_
 refine jE <| kx [(10, (kD 3))] [] (zM <| zE (qP 3 (hr := by decide)) <| zM <| zZ) ?_
 refine jI (jT.refl _) ?_
 refine jA <| jA <| kx [(25, (vb false))] [] (zM <| zM <| zE (yK kZ 3) <| zE (qL false qI) <| zZ) ?_
 refine kG ?_
 refine kB <| kJ (uV (t := 9) (k := 2) (es := List.map jM [(jB a20), (jB a21)]) rfl rfl (vY _ _ (fun _ => rfl)) (uS _ _ rfl) (yS jM [(jB a20), (jB a21)] (fun _ => rfl) rfl)) ?_
 refine kf [(7, (.own 0 52 1 ([[(jB a10), (jB a11)], [(jB a20), (jB a21)]].length)))] [(0, some (bm jN [[(jB a10), (jB a11)], [(jB a20), (jB a21)]]))] (zM <| zM <| zE (nO kZ gP eC) <| zA jN [[(jB a10), (jB a11)]] [[(jB a20), (jB a21)]] rfl kZ gP by52 (hbig := by exact (by simp +zetaDelta [maxLen] <;> omega)) (hbig' := by exact (by simp +zetaDelta <;> omega)) <| zM <| zF) ?_
 refine kx [(8, (kD 3))] [] (zM <| zE (qP 3 (hr := by decide)) <| zM <| zZ) ?_
 refine jI (jT.refl _) ?_
 refine jA <| jA <| kJ (wk (l := [(0, (vl 52 1 jN [[(jB a00), (jB a01), (jB a02)], [(jB a10), (jB a11), (jB a12)], [(jB a20), (jB a21), (jB a22)]])), (1, (kD 0)), (2, (kD 2)), (7, (.own 0 52 1 ([[(jB a10), (jB a11)], [(jB a20), (jB a21)]].length))), (8, (kD 3))]) (b := [(0, some (bm jN [[(jB a10), (jB a11)], [(jB a20), (jB a21)]]))])) ?_
 refine kx [(15, (vb false))] [] (zM <| zM <| zE (yK kZ 3) <| zE (qL false qI) <| zZ) ?_
 refine kG ?_
 refine kB <| jA <| kx [(6, (.own 0 52 1 ([[(jB a10), (jB a11)], [(jB a20), (jB a21)]].length)))] [] (zM <| zM <| zZ) ?_
 refine kJ (uV (t := 6) (k := 0) (es := List.map jN [[(jB a10), (jB a11)], [(jB a20), (jB a21)]]) rfl rfl (vK _ _ (fun _ => rfl)) (uS _ _ rfl) (xG _ _ (fun _ => rfl) rfl)) ?_
 refine jJ ⟨_, (.tmp (d := (.sl 52 1 (List.map jN [[(jB a10), (jB a11)], [(jB a20), (jB a21)]]))) rfl .nil), ?_⟩
 rfl
theorem g_det3 (a00 a01 a02 a10 a11 a12 a20 a21 a22 : Rat) (eQ : QL a00 100000) (cM : QL a01 100000) (eE : QL a02 100000) (mB : QL a10 100000) (cT : QL a11 100000) (ha12 : QL a12 100000) (fX : QL a20 100000) (aX : QL a21 100000) (ha22 : QL a22 100000) : kH Tryz.prog 18 [(.sl 52 1 (List.map jN [[(jB a00), (jB a01), (jB a02)], [(jB a10), (jB a11), (jB a12)], [(jB a20), (jB a21), (jB a22)]]))] (jM (jB (xB a00 a01 a02 a10 a11 a12 a20 a21 a22))) := by
 let y5 := (bx (jM (jB (a02 * (kM a10 a11 a20 a21)))))
 let y4 := (bx (jM (kC.mk (jK.mk false []) (jK.mk false []))))
 let y3 := (jB (((0 : Int) : Rat) + (-(a01 * (kM a10 a12 a20 a22)))))
 let y2 := (bx (jM (jB (((0 : Int) : Rat) + (a00 * (kM a11 a12 a21 a22))))))
 let y1 := (jB ((((0 : Int) : Rat) + (a00 * (kM a11 a12 a21 a22))) + (-(a01 * (kM a10 a12 a20 a22)))))
 refine jP Tryz.func18 rfl cb18 rfl ?_
 show uK _ _ _ _ ⟨[(0, (vl 52 1 jN [[(jB a00), (jB a01), (jB a02)], [(jB a10), (jB a11), (jB a12)], [(jB a20), (jB a21), (jB a22)]]))], []⟩
 refine jA <| kx [(2, (.ref 0 0))] [(0, some y4)] (zN (qW 0 qA qH) <| zZ) ?_
 refine jA <| jA <| kx [(8, (vb false))] [] (zM <| zE (yK kZ 3) <| zE cB <| zZ) ?_
 refine kG ?_
 refine jE <| jA ?_
 have bn1 : QL ((0 : Int) : Rat) 3 := (qi 0)
 refine kx [(3, (.ref 1 0))] [(1, some (bx (jM (jB ((0 : Int) : Rat)))))] (zE (kA (g_whole5 ((0 : Nat) : Int) (by omega) (by omega))) <| zN (qW 1 qA qH) <| zT (kW jO) <| zZ) ?_
 refine jA <| jA <| kx [(4, (kD 0))] [] (zM <| zZ) ?_
 refine jF <| kN 20 ?_
 refine kU <| jA <| jA <| kx [(18, (vb true))] [] (zM <| zM <| zE (yK kZ 3) <| zE (qL true qI) <| zZ) ?_
 refine jS ?_
 refine jE <| jA <| jF <| jA <| jA <| kx [(28, (vb ((uI a00) == ((0 : Nat) : Int))))] [] (zM <| zE (vM kZ 0) <| zE (xX yB) <| zM <| zE (vM qF 0) <| zE (nL jO) <| zE (kA (gQ (jB a00) a00 (jX (jY eQ) (by decide)))) <| zE cB <| zZ) ?_
 refine jV (b := ((uI a00) == ((0 : Nat) : Int))) rfl (fun h1 => ?_) (fun h1 => ?_)
 ·replace h1 := eq_of_beq h1
  refine kB <| kx [(4, (kD 1))] [] (zM <| zE (qP 1 (hr := by decide)) <| zM <| zZ) ?_
  refine jI (jT.refl _) ?_
  refine jA <| jA <| kx [(18, (vb true))] [] (zM <| zM <| zE (yK kZ 3) <| zE (qL true qI) <| zZ) ?_
  refine jS ?_
  refine jE <| jA <| jF <| jA <| jA <| kx [(28, (vb ((uI a01) == ((0 : Nat) : Int))))] [] (zM <| zE (vM kZ 0) <| zE (xX yB) <| zM <| zE (vM qF 1) <| zE (nL jO) <| zE (kA (gQ (jB a01) a01 (jX (jY cM) (by decide)))) <| zE cB <| zZ) ?_
  refine jV (b := ((uI a01) == ((0 : Nat) : Int))) rfl (fun h2 => ?_) (fun h2 => ?_)
  ·replace h2 := eq_of_beq h2
   refine kB <| kx [(4, (kD 2))] [] (zM <| zE (qP 2 (hr := by decide)) <| zM <| zZ) ?_
   refine jI (jT.refl _) ?_
   refine jA <| jA <| kx [(18, (vb true))] [] (zM <| zM <| zE (yK kZ 3) <| zE (qL true qI) <| zZ) ?_
   refine jS ?_
   refine jE <| jA <| jF <| jA <| jA <| kx [(28, (vb ((uI a02) == ((0 : Nat) : Int))))] [] (zM <| zE (vM kZ 0) <| zE (xX yB) <| zM <| zE (vM qF 2) <| zE (nL jO) <| zE (kA (gQ (jB a02) a02 (jX (jY eE) (by decide)))) <| zE cB <| zZ) ?_
   refine jV (b := ((uI a02) == ((0 : Nat) : Int))) rfl (fun h3 => ?_) (fun h3 => ?_)
   ·replace h3 := eq_of_beq h3
    refine kB <| kx [(4, (kD 3))] [] (zM <| zE (qP 3 (hr := by decide)) <| zM <| zZ) ?_
    refine jI (jT.refl _) ?_
    refine jA <| jA <| kx [(18, (vb false))] [] (zM <| zM <| zE (yK kZ 3) <| zE (qL false qI) <| zZ) ?_
    refine kG ?_
    refine kB <| jA <| kJ (wk (l := [(0, (vl 52 1 jN [[(jB a00), (jB a01), (jB a02)], [(jB a10), (jB a11), (jB a12)], [(jB a20), (jB a21), (jB a22)]])), (2, (.ref 0 0)), (3, (.ref 1 0)), (4, (kD 3)), (18, (vb false))]) (b := [(0, some y4), (1, some (bx (jM (jB ((0 : Int) : Rat)))))])) ?_
    refine kx [] [(0, some (bx (jM (jB ((0 : Int) : Rat)))))] (zR (kF jO) <| zT (kW jO) <| zZ) ?_
    refine jJ ⟨_, (qC (cs := (bx (jM (jB ((0 : Int) : Rat))))) (d := (jM (jB ((0 : Int) : Rat)))) rfl rfl jO rfl rfl .nil), ?_⟩
    rw [← det3_ttt (sgt h1) (sgt h2) (sgt h3)]; rfl
   ·replace h3 := ne_of_beq_false h3
    refine jE <| jA ?_
    have bn2 : QL (kM a10 a11 a20 a21) 400001 := (show QL (kM a10 a11 a20 a21) 400001 from (kL (k := 400001) (jD (k := 200000) mB aX (by decide)) (jD (k := 200000) cT fX (by decide)) (by decide)))
    refine kd [(5, (.ref 2 0))] [(2, some y5)] mo (wM <| wE (vM kZ 0) <| wE (xX yB) <| wM <| wE (vM qF 2) <| wE (nL jO) <| wM <| wM <| wE (kA (g_min3_2 a00 a01 a02 a10 a11 a12 a20 a21 a22 (qu eQ) (qu cM) (qu eE) (qu mB) (qu cT) (qu ha12) (qu fX) (qu aX) (qu ha22))) <| wE (kA (g_det2 a10 a11 a20 a21 (qu mB) (qu cT) (qu fX) (qu aX))) <| wE (kA (mZ (jB a02) (jB (kM a10 a11 a20 a21)) a02 (kM a10 a11 a20 a21) (jX (jY eE) (by decide)) (jX (jY bn2) (by decide)))) <| wN (qW 2 qA qH) <| wT (kW jO) <| wZ) ?_
    refine jA <| jA <| kx [(42, (vb false))] [] (zM <| zE (iM 0 (hr := by decide)) <| zE cB <| zZ) ?_
    refine kG ?_
    refine jE <| kJ (wk (l := [(0, (vl 52 1 jN [[(jB a00), (jB a01), (jB a02)], [(jB a10), (jB a11), (jB a12)], [(jB a20), (jB a21), (jB a22)]])), (2, (.ref 0 0)), (3, (.ref 1 0)), (4, (kD 2)), (5, (.ref 2 0)), (42, (vb false))]) (b := [(0, some y4), (1, some (bx (jM (jB ((0 : Int) : Rat))))), (2, some y5)])) ?_
    have bn3 : QL (((0 : Int) : Rat) + (a02 * (kM a10 a11 a20 a21))) 500005 := (kE (k := 500005) bn1 (jD (k := 500001) eE bn2 (by decide)) (by decide))
    refine kx [] [(1, some (bx (jM (jB (((0 : Int) : Rat) + (a02 * (kM a10 a11 a20 a21)))))))] (zR (kF jO) <| zR (kF jO) <| zE (kA (eA (jB ((0 : Int) : Rat)) (jB (a02 * (kM a10 a11 a20 a21))) ((0 : Int) : Rat) (a02 * (kM a10 a11 a20 a21)) (jX (jY bn1) (by decide)) (jX (jY (jD (k := 500001) eE bn2 (by decide))) (by decide)))) <| zT (kW jO) <| zZ) ?_
    refine kx [(4, (kD 3))] [] (zM <| zE (qP 3 (hr := by decide)) <| zM <| zZ) ?_
    refine jI (jT.refl _) ?_
    refine jA <| jA <| kx [(18, (vb false))] [] (zM <| zM <| zE (yK kZ 3) <| zE (qL false qI) <| zZ) ?_
    refine kG ?_
    refine kB <| jA <| kx [] [(0, some (bx (jM (jB (((0 : Int) : Rat) + (a02 * (kM a10 a11 a20 a21)))))))] (zR (kF jO) <| zT (kW jO) <| zZ) ?_
    refine jJ ⟨_, (qC (cs := (bx (jM (jB (((0 : Int) : Rat) + (a02 * (kM a10 a11 a20 a21))))))) (d := (jM (jB (((0 : Int) : Rat) + (a02 * (kM a10 a11 a20 a21)))))) rfl rfl jO rfl rfl .nil), ?_⟩
    rw [← det3_ttf (sgt h1) (sgt h2) (sgf h3)]; rfl
  ·replace h2 := ne_of_beq_false h2
   refine jE <| jA ?_
   have bn4 : QL (kM a10 a12 a20 a22) 400001 := (show QL (kM a10 a12 a20 a22) 400001 from (kL (k := 400001) (jD (k := 200000) mB ha22 (by decide)) (jD (k := 200000) ha12 fX (by decide)) (by decide)))
   refine kd [(5, (.ref 3 0))] [(3, some (bx (jM (jB (a01 * (kM a10 a12 a20 a22))))))] mo (wM <| wE (vM kZ 0) <| wE (xX yB) <| wM <| wE (vM qF 1) <| wE (nL jO) <| wM <| wM <| wE (kA (g_min3_1 a00 a01 a02 a10 a11 a12 a20 a21 a22 (qu eQ) (qu cM) (qu eE) (qu mB) (qu cT) (qu ha12) (qu fX) (qu aX) (qu ha22))) <| wE (kA (g_det2 a10 a12 a20 a22 (qu mB) (qu ha12) (qu fX) (qu ha22))) <| wE (kA (mZ (jB a01) (jB (kM a10 a12 a20 a22)) a01 (kM a10 a12 a20 a22) (jX (jY cM) (by decide)) (jX (jY bn4) (by decide)))) <| wN (qW 3 qA qH) <| wT (kW jO) <| wZ) ?_
   refine jA <| jA <| kx [(42, (vb true))] [] (zM <| zE (iM 1 (hr := by decide)) <| zE cB <| zZ) ?_
   refine jS ?_
   have bn5 : QL (-(a01 * (kM a10 a12 a20 a22))) 500001 := (ql_neg (jD (k := 500001) cM bn4 (by decide)))
   refine kx [] [(3, some (bx (jM (jB (-(a01 * (kM a10 a12 a20 a22)))))))] (zR (kF jO) <| zE (kA (g_neg (jB (a01 * (kM a10 a12 a20 a22))) (a01 * (kM a10 a12 a20 a22)) (jX (jY (jD (k := 500001) cM bn4 (by decide))) (by decide)))) <| zT (kW jO) <| zZ) ?_
   refine kx [] [(1, some (bx (jM y3)))] (zR (kF jO) <| zR (kF jO) <| zE (kA (eA (jB ((0 : Int) : Rat)) (jB (-(a01 * (kM a10 a12 a20 a22)))) ((0 : Int) : Rat) (-(a01 * (kM a10 a12 a20 a22))) (jX (jY bn1) (by decide)) (jX (jY bn5) (by decide)))) <| zT (kW jO) <| zZ) ?_
   refine kx [(4, (kD 2))] [] (zM <| zE (qP 2 (hr := by decide)) <| zM <| zZ) ?_
   refine jI (jT.refl _) ?_
   refine jA <| jA <| kJ (wk (l := [(0, (vl 52 1 jN [[(jB a00), (jB a01), (jB a02)], [(jB a10), (jB a11), (jB a12)], [(jB a20), (jB a21), (jB a22)]])), (2, (.ref 0 0)), (3, (.ref 1 0)), (4, (kD 2))]) (b := [(0, some y4), (1, some (bx (jM y3)))])) ?_
   refine kx [(18, (vb true))] [] (zM <| zM <| zE (yK kZ 3) <| zE (qL true qI) <| zZ) ?_
   refine jS ?_
   refine jE <| jA <| jF <| jA <| jA <| kx [(28, (vb ((uI a02) == ((0 : Nat) : Int))))] [] (zM <| zE (vM kZ 0) <| zE (xX yB) <| zM <| zE (vM qF 2) <| zE (nL jO) <| zE (kA (gQ (jB a02) a02 (jX (jY eE) (by decide)))) <| zE cB <| zZ) ?_
   refine jV (b := ((uI a02) == ((0 : Nat) : Int))) rfl (fun h4 => ?_) (fun h4 => ?_)
   ·replace h4 := eq_of_beq h4
    refine kB <| kx [(4, (kD 3))] [] (zM <| zE (qP 3 (hr := by decide)) <| zM <| zZ) ?_
    refine jI (jT.refl _) ?_
    refine jA <| jA <| kx [(18, (vb false))] [] (zM <| zM <| zE (yK kZ 3) <| zE (qL false qI) <| zZ) ?_
    refine kG ?_
    refine kB <| jA <| kx [] [(0, some (bx (jM y3)))] (zR (kF jO) <| zT (kW jO) <| zZ) ?_
    refine jJ ⟨_, (qC (cs := (bx (jM (jB (((0 : Int) : Rat) + (-(a01 * (kM a10 a12 a20 a22)))))))) (d := (jM (jB (((0 : Int) : Rat) + (-(a01 * (kM a10 a12 a20 a22))))))) rfl rfl jO rfl rfl .nil), ?_⟩
    rw [← det3_tft (sgt h1) (sgf h2) (sgt h4)]; rfl
   ·replace h4 := ne_of_beq_false h4
    refine jE <| jA ?_
    have bn6 : QL (kM a10 a11 a20 a21) 400001 := (show QL (kM a10 a11 a20 a21) 400001 from (kL (k := 400001) (jD (k := 200000) mB aX (by decide)) (jD (k := 200000) cT fX (by decide)) (by decide)))
    refine kd [(5, (.ref 4 0))] [(4, some y5)] mo (wM <| wE (vM kZ 0) <| wE (xX yB) <| wM <| wE (vM qF 2) <| wE (nL jO) <| wM <| wM <| wE (kA (g_min3_2 a00 a01 a02 a10 a11 a12 a20 a21 a22 (qu eQ) (qu cM) (qu eE) (qu mB) (qu cT) (qu ha12) (qu fX) (qu aX) (qu ha22))) <| wE (kA (g_det2 a10 a11 a20 a21 (qu mB) (qu cT) (qu fX) (qu aX))) <| wE (kA (mZ (jB a02) (jB (kM a10 a11 a20 a21)) a02 (kM a10 a11 a20 a21) (jX (jY eE) (by decide)) (jX (jY bn6) (by decide)))) <| wN (qW 4 qA qH) <| wT (kW jO) <| wZ) ?_
    refine jA <| jA <| kx [(42, (vb false))] [] (zM <| zE (iM 0 (hr := by decide)) <| zE cB <| zZ) ?_
    refine kG ?_
    refine jE ?_
    have bn7 : QL ((((0 : Int) : Rat) + (-(a01 * (kM a10 a12 a20 a22)))) + (a02 * (kM a10 a11 a20 a21))) 1000007 := (kE (k := 1000007) (kE (k := 500005) bn1 bn5 (by decide)) (jD (k := 500001) eE bn6 (by decide)) (by decide))
    refine kx [] [(1, some (bx (jM (jB ((((0 : Int) : Rat) + (-(a01 * (kM a10 a12 a20 a22)))) + (a02 * (kM a10 a11 a20 a21)))))))] (zR (kF jO) <| zR (kF jO) <| zE (kA (eA y3 (jB (a02 * (kM a10 a11 a20 a21))) (((0 : Int) : Rat) + (-(a01 * (kM a10 a12 a20 a22)))) (a02 * (kM a10 a11 a20 a21)) (jX (jY (kE (k := 500005) bn1 bn5 (by decide))) (by decide)) (jX (jY (jD (k := 500001) eE bn6 (by decide))) (by decide)))) <| zT (kW jO) <| zZ) ?_
    refine kx [(4, (kD 3))] [] (zM <| zE (qP 3 (hr := by decide)) <| zM <| zZ) ?_
    refine jI (jT.refl _) ?_
    refine jA <| jA <| kx [(18, (vb false))] [] (zM <| zM <| zE (yK kZ 3) <| zE (qL false qI) <| zZ) ?_
    refine kG ?_
    refine kB <| jA <| kx [] [(0, some (bx (jM (jB ((((0 : Int) : Rat) + (-(a01 * (kM a10 a12 a20 a22)))) + (a02 * (kM a10 a11 a20 a21)))))))] (zR (kF jO) <| zT (kW jO) <| zZ) ?_
    refine jJ ⟨_, (qC (cs := (bx (jM (jB ((((0 : Int) : Rat) + (-(a01 * (kM a10 a12 a20 a22)))) + (a02 * (kM a10 a11 a20 a21))))))) (d := (jM (jB ((((0 : Int) : Rat) + (-(a01 * (kM a10 a12 a20 a22)))) + (a02 * (kM a10 a11 a20 a21)))))) rfl rfl jO rfl rfl .nil), ?_⟩
    rw [← det3_tff (sgt h1) (sgf h2) (sgf h4)]; rfl
 ·replace h1 := ne_of_beq_false h1
  refine jE <| jA ?_
  have bn8 : QL (kM a11 a12 a21 a22) 400001 := (show QL (kM a11 a12 a21 a22) 400001 from (kL (k := 400001) (jD (k := 200000) cT ha22 (by decide)) (jD (k := 200000) ha12 aX (by decide)) (by decide)))
  refine kd [(5, (.ref 5 0))] [(5, some (bx (jM (jB (a00 * (kM a11 a12 a21 a22))))))] mo (wM <| wE (vM kZ 0) <| wE (xX yB) <| wM <| wE (vM qF 0) <| wE (nL jO) <| wM <| wM <| wE (kA (g_min3_0 a00 a01 a02 a10 a11 a12 a20 a21 a22 (qu eQ) (qu cM) (qu eE) (qu mB) (qu cT) (qu ha12) (qu fX) (qu aX) (qu ha22))) <| wE (kA (g_det2 a11 a12 a21 a22 (qu cT) (qu ha12) (qu aX) (qu ha22))) <| wE (kA (mZ (jB a00) (jB (kM a11 a12 a21 a22)) a00 (kM a11 a12 a21 a22) (jX (jY eQ) (by decide)) (jX (jY bn8) (by decide)))) <| wN (qW 5 qA qH) <| wT (kW jO) <| wZ) ?_
  refine jA <| jA <| kx [(42, (vb false))] [] (zM <| zE (iM 0 (hr := by decide)) <| zE cB <| zZ) ?_
  refine kG ?_
  refine jE ?_
  have bn9 : QL (((0 : Int) : Rat) + (a00 * (kM a11 a12 a21 a22))) 500005 := (kE (k := 500005) bn1 (jD (k := 500001) eQ bn8 (by decide)) (by decide))
  refine kx [] [(1, some y2)] (zR (kF jO) <| zR (kF jO) <| zE (kA (eA (jB ((0 : Int) : Rat)) (jB (a00 * (kM a11 a12 a21 a22))) ((0 : Int) : Rat) (a00 * (kM a11 a12 a21 a22)) (jX (jY bn1) (by decide)) (jX (jY (jD (k := 500001) eQ bn8 (by decide))) (by decide)))) <| zT (kW jO) <| zZ) ?_
  refine kx [(4, (kD 1))] [] (zM <| zE (qP 1 (hr := by decide)) <| zM <| zZ) ?_
  refine jI (jT.refl _) ?_
  refine jA <| jA <| kx [(18, (vb true))] [] (zM <| zM <| zE (yK kZ 3) <| zE (qL true qI) <| zZ) ?_
  refine jS ?_
  refine jE <| jA <| jF <| jA <| jA <| kx [(28, (vb ((uI a01) == ((0 : Nat) : Int))))] [] (zM <| zE (vM kZ 0) <| zE (xX yB) <| zM <| zE (vM qF 1) <| zE (nL jO) <| zE (kA (gQ (jB a01) a01 (jX (jY cM) (by decide)))) <| zE cB <| zZ) ?_
  refine jV (b := ((uI a01) == ((0 : Nat) : Int))) rfl (fun h5 => ?_) (fun h5 => ?_)
  ·replace h5 := eq_of_beq h5
   refine kB <| kx [(4, (kD 2))] [] (zM <| zE (qP 2 (hr := by decide)) <| zM <| zZ) ?_
   refine jI (jT.refl _) ?_
   refine jA <| jA <| kx [(18, (vb true))] [] (zM <| zM <| zE (yK kZ 3) <| zE (qL true qI) <| zZ) ?_
   refine jS ?_
   refine jE <| jA <| jF <| jA <| jA <| kJ (wk (l := [(0, (vl 52 1 jN [[(jB a00), (jB a01), (jB a02)], [(jB a10), (jB a11), (jB a12)], [(jB a20), (jB a21), (jB a22)]])), (2, (.ref 0 0)), (3, (.ref 1 0)), (4, (kD 2)), (18, (vb true))]) (b := [(0, some y4), (1, some y2)])) ?_
   refine kx [(28, (vb ((uI a02) == ((0 : Nat) : Int))))] [] (zM <| zE (vM kZ 0) <| zE (xX yB) <| zM <| zE (vM qF 2) <| zE (nL jO) <| zE (kA (gQ (jB a02) a02 (jX (jY eE) (by decide)))) <| zE cB <| zZ) ?_
   refine jV (b := ((uI a02) == ((0 : Nat) : Int))) rfl (fun h6 => ?_) (fun h6 => ?_)
   ·replace h6 := eq_of_beq h6
    refine kB <| kx [(4, (kD 3))] [] (zM <| zE (qP 3 (hr := by decide)) <| zM <| zZ) ?_
    refine jI (jT.refl _) ?_
    refine jA <| jA <| kx [(18, (vb false))] [] (zM <| zM <| zE (yK kZ 3) <| zE (qL false qI) <| zZ) ?_
    refine kG ?_
    refine kB <| jA <| kx [] [(0, some y2)] (zR (kF jO) <| zT (kW jO) <| zZ) ?_
    refine jJ ⟨_, (qC (cs := (bx (jM (jB (((0 : Int) : Rat) + (a00 * (kM a11 a12 a21 a22))))))) (d := (jM (jB (((0 : Int) : Rat) + (a00 * (kM a11 a12 a21 a22)))))) rfl rfl jO rfl rfl .nil), ?_⟩
    rw [← det3_ftt (sgf h1) (sgt h5) (sgt h6)]; rfl
   ·replace h6 := ne_of_beq_false h6
    refine jE <| jA ?_
    have bn10 : QL (kM a10 a11 a20 a21) 400001 := (show QL (kM a10 a11 a20 a21) 400001 from (kL (k := 400001) (jD (k := 200000) mB aX (by decide)) (jD (k := 200000) cT fX (by decide)) (by decide)))
    refine kd [(5, (.ref 6 0))] [(6, some y5)] mo (wM <| wE (vM kZ 0) <| wE (xX yB) <| wM <| wE (vM qF 2) <| wE (nL jO) <| wM <| wM <| wE (kA (g_min3_2 a00 a01 a02 a10 a11 a12 a20 a21 a22 (qu eQ) (qu cM) (qu eE) (qu mB) (qu cT) (qu ha12) (qu fX) (qu aX) (qu ha22))) <| wE (kA (g_det2 a10 a11 a20 a21 (qu mB) (qu cT) (qu fX) (qu aX))) <| wE (kA (mZ (jB a02) (jB (kM a10 a11 a20 a21)) a02 (kM a10 a11 a20 a21) (jX (jY eE) (by decide)) (jX (jY bn10) (by decide)))) <| wN (qW 6 qA qH) <| wT (kW jO) <| wZ) ?_
    refine jA <| jA <| kx [(42, (vb false))] [] (zM <| zE (iM 0 (hr := by decide)) <| zE cB <| zZ) ?_
    refine kG ?_
    refine jE ?_
    have bn11 : QL ((((0 : Int) : Rat) + (a00 * (kM a11 a12 a21 a22))) + (a02 * (kM a10 a11 a20 a21))) 1000007 := (kE (k := 1000007) bn9 (jD (k := 500001) eE bn10 (by decide)) (by decide))
    refine kx [] [(1, some (bx (jM (jB ((((0 : Int) : Rat) + (a00 * (kM a11 a12 a21 a22))) + (a02 * (kM a10 a11 a20 a21)))))))] (zR (kF jO) <| zR (kF jO) <| zE (kA (eA (jB (((0 : Int) : Rat) + (a00 * (kM a11 a12 a21 a22)))) (jB (a02 * (kM a10 a11 a20 a21))) (((0 : Int) : Rat) + (a00 * (kM a11 a12 a21 a22))) (a02 * (kM a10 a11 a20 a21)) (jX (jY bn9) (by decide)) (jX (jY (jD (k := 500001) eE bn10 (by decide))) (by decide)))) <| zT (kW jO) <| zZ) ?_
    refine kx [(4, (kD 3))] [] (zM <| zE (qP 3 (hr := by decide)) <| zM <| zZ) ?_
    refine jI (jT.refl _) ?_
    refine jA <| jA <| kx [(18, (vb false))] [] (zM <| zM <| zE (yK kZ 3) <| zE (qL false qI) <| zZ) ?_
    refine kG ?_
    refine kB <| jA <| kx [] [(0, some (bx (jM (jB ((((0 : Int) : Rat) + (a00 * (kM a11 a12 a21 a22))) + (a02 * (kM a10 a11 a20 a21)))))))] (zR (kF jO) <| zT (kW jO) <| zZ) ?_
    refine jJ ⟨_, (qC (cs := (bx (jM (jB ((((0 : Int) : Rat) + (a00 * (kM a11 a12 a21 a22))) + (a02 * (kM a10 a11 a20 a21))))))) (d := (jM (jB ((((0 : Int) : Rat) + (a00 * (kM a11 a12 a21 a22))) + (a02 * (kM a10 a11 a20 a21)))))) rfl rfl jO rfl rfl .nil), ?_⟩
    rw [← det3_ftf (sgf h1) (sgt h5) (sgf h6)]; rfl
  ·replace h5 := ne_of_beq_false h5
   refine jE <| jA ?_
   have bn12 : QL (kM a10 a12 a20 a22) 400001 := (show QL (kM a10 a12 a20 a22) 400001 from (kL (k := 400001) (jD (k := 200000) mB ha22 (by decide)) (jD (k := 200000) ha12 fX (by decide)) (by decide)))
   refine kd [(5, (.ref 7 0))] [(7, some (bx (jM (jB (a01 * (kM a10 a12 a20 a22))))))] mo (wM <| wE (vM kZ 0) <| wE (xX yB) <| wM <| wE (vM qF 1) <| wE (nL jO) <| wM <| wM <| wE (kA (g_min3_1 a00 a01 a02 a10 a11 a12 a20 a21 a22 (qu eQ) (qu cM) (qu eE) (qu mB) (qu cT) (qu ha12) (qu fX) (qu aX) (qu ha22))) <| wE (kA (g_det2 a10 a12 a20 a22 (qu mB) (qu ha12) (qu fX) (qu ha22))) <| wE (kA (mZ (jB a01) (jB (kM a10 a12 a20 a22)) a01 (kM a10 a12 a20 a22) (jX (jY cM) (by decide)) (jX (jY bn12) (by decide)))) <| wN (qW 7 qA qH) <| wT (kW jO) <| wZ) ?_
   refine jA <| jA <| kx [(42, (vb true))] [] (zM <| zE (iM 1 (hr := by decide)) <| zE cB <| zZ) ?_
   refine jS ?_
   refine kJ (wk (l := [(0, (vl 52 1 jN [[(jB a00), (jB a01), (jB a02)], [(jB a10), (jB a11), (jB a12)], [(jB a20), (jB a21), (jB a22)]])), (2, (.ref 0 0)), (3, (.ref 1 0)), (4, (kD 1)), (5, (.ref 7 0)), (42, (vb true))]) (b := [(0, some y4), (1, some y2), (7, some (bx (jM (jB (a01 * (kM a10 a12 a20 a22))))))])) ?_
   have bn13 : QL (-(a01 * (kM a10 a12 a20 a22))) 500001 := (ql_neg (jD (k := 500001) cM bn12 (by decide)))
   refine kx [] [(7, some (bx (jM (jB (-(a01 * (kM a10 a12 a20 a22)))))))] (zR (kF jO) <| zE (kA (g_neg (jB (a01 * (kM a10 a12 a20 a22))) (a01 * (kM a10 a12 a20 a22)) (jX (jY (jD (k := 500001) cM bn12 (by decide))) (by decide)))) <| zT (kW jO) <| zZ) ?_
   refine kx [] [(1, some (bx (jM y1)))] (zR (kF jO) <| zR (kF jO) <| zE (kA (eA (jB (((0 : Int) : Rat) + (a00 * (kM a11 a12 a21 a22)))) (jB (-(a01 * (kM a10 a12 a20 a22)))) (((0 : Int) : Rat) + (a00 * (kM a11 a12 a21 a22))) (-(a01 * (kM a10 a12 a20 a22))) (jX (jY bn9) (by decide)) (jX (jY bn13) (by decide)))) <| zT (kW jO) <| zZ) ?_
   refine kx [(4, (kD 2))] [] (zM <| zE (qP 2 (hr := by decide)) <| zM <| zZ) ?_
   refine jI (jT.refl _) ?_
   refine jA <| jA <| kx [(18, (vb true))] [] (zM <| zM <| zE (yK kZ 3) <| zE (qL true qI) <| zZ) ?_
   refine jS ?_
   refine jE <| jA <| jF <| jA <| jA <| kx [(28, (vb ((uI a02) == ((0 : Nat) : Int))))] [] (zM <| zE (vM kZ 0) <| zE (xX yB) <| zM <| zE (vM qF 2) <| zE (nL jO) <| zE (kA (gQ (jB a02) a02 (jX (jY eE) (by decide)))) <| zE cB <| zZ) ?_
   refine jV (b := ((uI a02) == ((0 : Nat) : Int))) rfl (fun h7 => ?_) (fun h7 => ?_)
   ·replace h7 := eq_of_beq h7
    refine kB <| kx [(4, (kD 3))] [] (zM <| zE (qP 3 (hr := by decide)) <| zM <| zZ) ?_
    refine jI (jT.refl _) ?_
    refine jA <| jA <| kx [(18, (vb false))] [] (zM <| zM <| zE (yK kZ 3) <| zE (qL false qI) <| zZ) ?_
    refine kG ?_
    refine kB <| jA <| kx [] [(0, some (bx (jM y1)))] (zR (kF jO) <| zT (kW jO) <| zZ) ?_
    refine jJ ⟨_, (qC (cs := (bx (jM (jB ((((0 : Int) : Rat) + (a00 * (kM a11 a12 a21 a22))) + (-(a01 * (kM a10 a12 a20 a22)))))))) (d := (jM (jB ((((0 : Int) : Rat) + (a00 * (kM a11 a12 a21 a22))) + (-(a01 * (kM a10 a12 a20 a22))))))) rfl rfl jO rfl rfl .nil), ?_⟩
    rw [← det3_fft (sgf h1) (sgf h5) (sgt h7)]; rfl
   ·replace h7 := ne_of_beq_false h7
    refine jE <| jA ?_
    have bn14 : QL (kM a10 a11 a20 a21) 400001 := (show QL (kM a10 a11 a20 a21) 400001 from (kL (k := 400001) (jD (k := 200000) mB aX (by decide)) (jD (k := 200000) cT fX (by decide)) (by decide)))
    refine kd [(5, (.ref 8 0))] [(8, some y5)] mo (wM <| wE (vM kZ 0) <| wE (xX yB) <| wM <| wE (vM qF 2) <| wE (nL jO) <| wM <| wM <| wE (kA (g_min3_2 a00 a01 a02 a10 a11 a12 a20 a21 a22 (qu eQ) (qu cM) (qu eE) (qu mB) (qu cT) (qu ha12) (qu fX) (qu aX) (qu ha22))) <| wE (kA (g_det2 a10 a11 a20 a21 (qu mB) (qu cT) (qu fX) (qu aX))) <| wE (kA (mZ (jB a02) (jB (kM a10 a11 a20 a21)) a02 (kM a10 a11 a20 a21) (jX (jY eE) (by decide)) (jX (jY bn14) (by decide)))) <| wN (qW 8 qA qH) <| wT (kW jO) <| wZ) ?_
    refine jA <| jA <| kx [(42, (vb false))] [] (zM <| zE (iM 0 (hr := by decide)) <| zE cB <| zZ) ?_
    refine kG ?_
    refine jE ?_
    have bn15 : QL (((((0 : Int) : Rat) + (a00 * (kM a11 a12 a21 a22))) + (-(a01 * (kM a10 a12 a20 a22)))) + (a02 * (kM a10 a11 a20 a21))) 1500009 := (kE (k := 1500009) (kE (k := 1000007) bn9 bn13 (by decide)) (jD (k := 500001) eE bn14 (by decide)) (by decide))
    refine kx [] [(1, some (bx (jM (jB (((((0 : Int) : Rat) + (a00 * (kM a11 a12 a21 a22))) + (-(a01 * (kM a10 a12 a20 a22)))) + (a02 * (kM a10 a11 a20 a21)))))))] (zR (kF jO) <| zR (kF jO) <| zE (kA (eA y1 (jB (a02 * (kM a10 a11 a20 a21))) ((((0 : Int) : Rat) + (a00 * (kM a11 a12 a21 a22))) + (-(a01 * (kM a10 a12 a20 a22)))) (a02 * (kM a10 a11 a20 a21)) (jX (jY (kE (k := 1000007) bn9 bn13 (by decide))) (by decide)) (jX (jY (jD (k := 500001) eE bn14 (by decide))) (by decide)))) <| zT (kW jO) <| zZ) ?_
    refine kx [(4, (kD 3))] [] (zM <| zE (qP 3 (hr := by decide)) <| zM <| zZ) ?_
    refine jI (jT.refl _) ?_
    refine jA <| jA <| kx [(18, (vb false))] [] (zM <| zM <| zE (yK kZ 3) <| zE (qL false qI) <| zZ) ?_
    refine kG ?_
    refine kB <| jA <| kx [] [(0, some (bx (jM (jB (((((0 : Int) : Rat) + (a00 * (kM a11 a12 a21 a22))) + (-(a01 * (kM a10 a12 a20 a22)))) + (a02 * (kM a10 a11 a20 a21)))))))] (zR (kF jO) <| zT (kW jO) <| zZ) ?_
    refine jJ ⟨_, (qC (cs := (bx (jM (jB (((((0 : Int) : Rat) + (a00 * (kM a11 a12 a21 a22))) + (-(a01 * (kM a10 a12 a20 a22)))) + (a02 * (kM a10 a11 a20 a21))))))) (d := (jM (jB (((((0 : Int) : Rat) + (a00 * (kM a11 a12 a21 a22))) + (-(a01 * (kM a10 a12 a20 a22)))) + (a02 * (kM a10 a11 a20 a21)))))) rfl rfl jO rfl rfl .nil), ?_⟩
    rw [← det3_fff (sgf h1) (sgf h5) (sgf h7)]; rfl
theorem g_sameM3 (a00 a01 a02 a10 a11 a12 a20 a21 a22 : Rat) (eQ : QL a00 100000) (cM : QL a01 100000) (eE : QL a02 100000) (mB : QL a10 100000) (cT : QL a11 100000) (ha12 : QL a12 100000) (fX : QL a20 100000) (aX : QL a21 100000) (ha22 : QL a22 100000) (b00 b01 b02 b10 b11 b12 b20 b21 b22 : Rat) (hb00 : QL b00 100000) (hb01 : QL b01 100000) (hb02 : QL b02 100000) (hb10 : QL b10 100000) (hb11 : QL b11 100000) (hb12 : QL b12 100000) (hb20 : QL b20 100000) (hb21 : QL b21 100000) (hb22 : QL b22 100000) (hab00 : a00 = b00) (hab01 : a01 = b01) (hab02 : a02 = b02) (hab10 : a10 = b10) (hab11 : a11 = b11) (hab12 : a12 = b12) (hab20 : a20 = b20) (hab21 : a21 = b21) (hab22 : a22 = b22) : kH Tryz.prog 16 [(.sl 52 1 (List.map jN [[(jB a00), (jB a01), (jB a02)], [(jB a10), (jB a11), (jB a12)], [(jB a20), (jB a21), (jB a22)]])), (.sl 52 1 (List.map jN [[(jB b00), (jB b01), (jB b02)], [(jB b10), (jB b11), (jB b12)], [(jB b20), (jB b21), (jB b22)]]))] (.val (.bool (true))) := by
 refine jP Tryz.func16 rfl cb16 rfl ?_
 show uK _ _ _ _ ⟨[(0, (vl 52 1 jN [[(jB a00), (jB a01), (jB a02)], [(jB a10), (jB a11), (jB a12)], [(jB a20), (jB a21), (jB a22)]])), (1, (vl 52 1 jN [[(jB b00), (jB b01), (jB b02)], [(jB b10), (jB b11), (jB b12)], [(jB b20), (jB b21), (jB b22)]]))], []⟩
 refine jA <| kx [] [] (zM <| zZ) ?_
 refine jA <| jA <| kx [(10, (vb false))] [] (zM <| zE (yK kZ 3) <| zM <| zE (yK kZ 3) <| zE mE <| zZ) ?_
 refine kG ?_
 refine jE <| jA <| jA <| kx [(5, (kD 0))] [] (zM <| zZ) ?_
 refine jF <| kN 20 ?_
 refine kU <| jA <| jA <| kx [(14, (vb true))] [] (zM <| zM <| zE (yK kZ 3) <| zE (qL true qI) <| zZ) ?_
 refine jS ?_
 refine jE <| jA <| jF <| jA <| kd [(26, (vb false))] [] mo (wM <| wM <| wE (vM kZ 0) <| wE (xX yB) <| wM <| wM <| wE (vM kZ 0) <| wE (xX yB) <| wE (kA (g_sameL3 42 a00 a01 a02 (qu eQ) (qu cM) (qu eE) 42 b00 b01 b02 (qu hb00) (qu hb01) (qu hb02) hab00 hab01 hab02)) <| wE oNt <| wZ) ?_
 refine kG ?_
 refine jE <| kx [(5, (kD 1))] [] (zM <| zE (qP 1 (hr := by decide)) <| zM <| zZ) ?_
 refine jI (jT.refl _) ?_
 refine jA <| jA <| kx [(14, (vb true))] [] (zM <| zM <| zE (yK kZ 3) <| zE (qL true qI) <| zZ) ?_
 refine jS ?_
 refine jE <| jA <| jF <| jA <| kd [(26, (vb false))] [] mo (wM <| wM <| wE (vM kZ 1) <| wE (xX yB) <| wM <| wM <| wE (vM kZ 1) <| wE (xX yB) <| wE (kA (g_sameL3 42 a10 a11 a12 (qu mB) (qu cT) (qu ha12) 42 b10 b11 b12 (qu hb10) (qu hb11) (qu hb12) hab10 hab11 hab12)) <| wE oNt <| wZ) ?_
 refine kG ?_
 refine jE <| kx [(5, (kD 2))] [] (zM <| zE (qP 2 (hr := by decide)) <| zM <| zZ) ?_
 refine jI (jT.refl _) ?_
 refine jA <| jA <| kx [(14, (vb true))] [] (zM <| zM <| zE (yK kZ 3) <| zE (qL true qI) <| zZ) ?_
 refine jS ?_
 refine jE <| jA <| jF <| jA <| kd [(26, (vb false))] [] mo (wM <| wM <| wE (vM kZ 2) <| wE (xX yB) <| wM <| wM <| wE (vM kZ 2) <| wE (xX yB) <| wE (kA (g_sameL3 42 a20 a21 a22 (qu fX) (qu aX) (qu ha22) 42 b20 b21 b22 (qu hb20) (qu hb21) (qu hb22) hab20 hab21 hab22)) <| wE oNt <| wZ) ?_
 refine kG ?_
 refine jE <| kx [(5, (kD 3))] [] (zM <| zE (qP 3 (hr := by decide)) <| zM <| zZ) ?_
 refine jI (jT.refl _) ?_
 refine jA <| jA <| kx [(14, (vb false))] [] (zM <| zM <| zE (yK kZ 3) <| zE (qL false qI) <| zZ) ?_
 refine kG ?_
 refine kB <| jA <| kx [(4, (vb true))] [] (zM <| zZ) ?_
 refine jJ ⟨_, (.tmp (d := (.val (.bool (true)))) rfl .nil), ?_⟩
 rfl
end Go.Proofs.YtbecgnplakngdaaGreat
