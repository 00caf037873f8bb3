/- Part 26 of a proof: rules, plain facts, and functions walked. -/
import Derived.Test.YtapjldagikfcmaaGreatM25
namespace Go.Proofs.YtapjldagikfcmaaGreat
open Go.Fid
set_option maxRecDepth 4000
set_option linter.unusedVariables false
set_option linter.unusedSimpArgs false
theorem cb118 : callB Tryz.prog 118 = true := by kernel_rfl
theorem cb123 : callB Tryz.prog 123 = true := by kernel_rfl
theorem cb126 : callB Tryz.prog 126 = true := by kernel_rfl
theorem cb127 : callB Tryz.prog 127 = true := by kernel_rfl
theorem cb207 : callB Tryz.prog 207 = true := by kernel_rfl
theorem cb209 : callB Tryz.prog 209 = true := by kernel_rfl
theorem cb220 : callB Tryz.prog 220 = true := by kernel_rfl
theorem cb224 : callB Tryz.prog 224 = true := by kernel_rfl
theorem cb225 : callB Tryz.prog 225 = true := by kernel_rfl
theorem uW : vN Tryz.prog 26 0 = some 0 := by kernel_rfl
theorem uV : vN Tryz.prog 26 1 = some 1 := by kernel_rfl
theorem dF : vN Tryz.prog 52 0 = some 0 := by kernel_rfl
theorem dM : vN Tryz.prog 52 1 = some 1 := by kernel_rfl
theorem dL : vN Tryz.prog 52 2 = some 2 := by kernel_rfl
theorem gE : vN Tryz.prog 56 0 = some 0 := by kernel_rfl
theorem gB : vN Tryz.prog 56 1 = some 3 := by kernel_rfl
theorem fo56_2 : vN Tryz.prog 56 2 = some 7 := by kernel_rfl
theorem aR : vN Tryz.prog 56 3 = some 8 := by kernel_rfl
theorem sh62 : uJ Tryz.prog 62 = some (false, 1) := by kernel_rfl
theorem sh102 : uJ Tryz.prog 102 = some (true, 36) := by kernel_rfl
theorem ze102 : xL Tryz.prog 102 = some [.bool false, .slice none 0 0, .bool false, .slice none 0 0, .bool false, .slice none 0 0, .bool false, .slice none 0 0, .bool false, .slice none 0 0, .bool false, .slice none 0 0, .bool false, .slice none 0 0, .bool false, .slice none 0 0, .bool false, .slice none 0 0, .bool false, .slice none 0 0, .bool false, .slice none 0 0, .bool false, .slice none 0 0, .bool false, .slice none 0 0, .bool false, .slice none 0 0, .bool false, .slice none 0 0, .bool false, .slice none 0 0, .bool false, .slice none 0 0, .bool false, .slice none 0 0] := by kernel_rfl
theorem zo102 : cD [.bool false, .slice none 0 0, .bool false, .slice none 0 0, .bool false, .slice none 0 0, .bool false, .slice none 0 0, .bool false, .slice none 0 0, .bool false, .slice none 0 0, .bool false, .slice none 0 0, .bool false, .slice none 0 0, .bool false, .slice none 0 0, .bool false, .slice none 0 0, .bool false, .slice none 0 0, .bool false, .slice none 0 0, .bool false, .slice none 0 0, .bool false, .slice none 0 0, .bool false, .slice none 0 0, .bool false, .slice none 0 0, .bool false, .slice none 0 0, .bool false, .slice none 0 0] [.val (.bool false), .sl 181 1 [], .val (.bool false), .sl 181 1 [], .val (.bool false), .sl 181 1 [], .val (.bool false), .sl 181 1 [], .val (.bool false), .sl 181 1 [], .val (.bool false), .sl 181 1 [], .val (.bool false), .sl 181 1 [], .val (.bool false), .sl 181 1 [], .val (.bool false), .sl 181 1 [], .val (.bool false), .sl 181 1 [], .val (.bool false), .sl 181 1 [], .val (.bool false), .sl 181 1 [], .val (.bool false), .sl 181 1 [], .val (.bool false), .sl 181 1 [], .val (.bool false), .sl 181 1 [], .val (.bool false), .sl 181 1 [], .val (.bool false), .sl 181 1 [], .val (.bool false), .sl 181 1 []] := by simp [cD, Value.oneCell']
theorem q_turn (a b c d : Int) (ha : -1048576 ≤ a ∧ a ≤ 1048576) (hb : -1048576 ≤ b ∧ b ≤ 1048576) (hc : -1048576 ≤ c ∧ c ≤ 1048576) (hd : -1048576 ≤ d ∧ d ≤ 1048576) (hq : nF a b c d = 0) : kH Tryz.prog 207 [(uR (jL.mk a b c d))] (uA (A3.mk (A3.mk (jD (yX a b c d)) (jD (yW a b c d)) (jD (vX a b c d))) (A3.mk (jD (gC a b c d)) (jD (gD a b c d)) (jD (xD a b c d))) (A3.mk (jD (gI a b c d)) (jD (gJ a b c d)) (jD (xF a b c d))))) := by
 have hn0 := nq_ne hq
 have hnq := gX ha hb hc hd
 let y4 := (A3.mk (jZ.mk (jI.mk false []) (jI.mk false [])) (jZ.mk (jI.mk false []) (jI.mk false [])) (jZ.mk (jI.mk false []) (jI.mk false [])))
 let y3 := (bx (uA (A3.mk (A3.mk (jD (yX a b c d)) (jD (yW a b c d)) (jD (vX a b c d))) (A3.mk (jD (gC a b c d)) (jD (gD a b c d)) (jD (xD a b c d))) (A3.mk (jD (gI a b c d)) (jD (gJ a b c d)) (jD (xF a b c d))))))
 let y2 := (bx (uA (A3.mk (A3.mk (jD (yX a b c d)) (jD (yW a b c d)) (jD (vX a b c d))) (A3.mk (jD (gC a b c d)) (jD (gD a b c d)) (jD (xD a b c d))) y4)))
 let y1 := (bx (uA (A3.mk y4 y4 y4)))
 refine jM Tryz.func207 rfl cb207 rfl ?_
 show uY _ _ _ _ ⟨[(0, (.d (uR (jL.mk a b c d))))], []⟩
 refine jA <| kx [(1, (.ref 0 0)), (2, (.ref 1 0))] [(0, some (bx (uR (jL.mk a b c d)))), (1, some y1)] (zN (vD 0) <| zN (uK 1 eI eK) <| zZ) ?_
 refine jA ?_
 have bn1 : QL (Q00 a b c d) 3 := (kQ00)
 have bn2 : QL (Q01 a b c d) 3 := (kQ01)
 have bn3 : QL (Q02 a b c d) 3 := (kQ02)
 have bn4 : QL (Q10 a b c d) 3 := (kQ10)
 have bn5 : QL (Q11 a b c d) 3 := (kQ11)
 have bn6 : QL (Q12 a b c d) 3 := (kQ12)
 have bn7 : QL (Q20 a b c d) 3 := (kQ20)
 have bn8 : QL (Q21 a b c d) 3 := (kQ21)
 have bn9 : QL (Q22 a b c d) 3 := (kQ22)
 refine kx [(3, (vl 62 1 qH [[(jD (Q00 a b c d)), (jD (Q01 a b c d)), (jD (Q02 a b c d))], [(jD (Q10 a b c d)), (jD (Q11 a b c d)), (jD (Q12 a b c d))], [(jD (Q20 a b c d)), (jD (Q21 a b c d)), (jD (Q22 a b c d))]]))] [] (zR (kC yP) <| zE (kB (q_rmat a b c d (by omega) (by omega) (by omega) (by omega) hq hn0)) <| zM <| zE vA <| zE vA <| zM <| zM <| zZ) ?_
 refine jA ?_
 have bn10 : QL (N4 a b c d) 3 := (kF (Eq.symm (show ((nq a b c d : Int) : Rat) = N4 a b c d from rfl)) (kL (z := (nq a b c d)) (jN (by omega) (by omega)) (by decide)))
 refine kx [(5, (.ref 2 0))] [(2, some (bx (jP (jD (N4 a b c d)))))] (zR (kC yP) <| zE (kB (q_norm a b c d (by omega) (by omega) (by omega) (by omega))) <| zE (kB (by have h := gQ (nq a b c d) (by omega) (by omega); rw [(show ((nq a b c d : Int) : Rat) = N4 a b c d from rfl)] at h; exact h)) <| zN (uK 2 qZ uF) <| zT (qG jR) <| zZ) ?_
 refine jA <| kx [(6, (.ref 3 0))] [(3, some y1)] (zN (uK 3 eI eK) <| zZ) ?_
 refine jA <| jA <| kx [(16, (kD 0))] [] (zM <| zZ) ?_
 refine jE <| qF 20 ?_
 refine qU <| jA <| kx [(17, (vb true))] [] (zE (kR true qY) <| zZ) ?_
 refine jA <| jX ?_
 refine jB <| jA <| jE <| jA <| kx [(7, (kD 0))] [] (zM <| zM <| zZ) ?_
 have bn11 : QL (yX a b c d) 6 := (kF (Eq.symm (Q00_n (a := a) (b := b) (c := c) (d := d) hn0)) (jG (k := 6) bn1 bn10 (by decide)))
 have bn12 : QL (yW a b c d) 6 := (kF (Eq.symm (Q01_n (a := a) (b := b) (c := c) (d := d) hn0)) (jG (k := 6) bn2 bn10 (by decide)))
 have bn13 : QL (vX a b c d) 6 := (kF (Eq.symm (Q02_n (a := a) (b := b) (c := c) (d := d) hn0)) (jG (k := 6) bn3 bn10 (by decide)))
 refine kd [] [(3, some (bx (uA (A3.mk (A3.mk (jD (yX a b c d)) (jD (yW a b c d)) (jD (vX a b c d))) y4 y4))))] mo (wM <| wM <| wM <| wE (zS yT 0) <| wE (xN sh62) <| wE (zS vZ 0) <| wE (dH jR) <| wM <| wM <| wE (zS yT 0) <| wE (xN sh62) <| wE (zS vZ 1) <| wE (dH jR) <| wM <| wM <| wE (zS yT 0) <| wE (xN sh62) <| wE (zS vZ 2) <| wE (dH jR) <| wE (oBf uI nD nC) <| wR (kC jR) <| wE (kB (by have h := mH (Q00 a b c d) (Q01 a b c d) (Q02 a b c d) (qu bn1) (qu bn2) (qu bn3) (N4 a b c d) (qu bn10); rw [(Q00_n (a := a) (b := b) (c := c) (d := d) hn0), (Q01_n (a := a) (b := b) (c := c) (d := d) hn0), (Q02_n (a := a) (b := b) (c := c) (d := d) hn0)] at h; exact h)) <| wE (vL vK 0) <| wT (qG qX) <| wZ) ?_
 refine kx [(16, (kD 1))] [] (zE (uE 1 (hr := by decide)) <| zM <| zZ) ?_
 refine jJ (jW.refl _) ?_
 refine jA <| kx [(17, (vb true))] [] (zE (kR true qY) <| zZ) ?_
 refine jA <| jX ?_
 refine jB <| jA <| jE <| jA <| kx [(7, (kD 1))] [] (zM <| zM <| zZ) ?_
 have bn14 : QL (gC a b c d) 6 := (kF (Eq.symm (Q10_n (a := a) (b := b) (c := c) (d := d) hn0)) (jG (k := 6) bn4 bn10 (by decide)))
 have bn15 : QL (gD a b c d) 6 := (kF (Eq.symm (Q11_n (a := a) (b := b) (c := c) (d := d) hn0)) (jG (k := 6) bn5 bn10 (by decide)))
 have bn16 : QL (xD a b c d) 6 := (kF (Eq.symm (Q12_n (a := a) (b := b) (c := c) (d := d) hn0)) (jG (k := 6) bn6 bn10 (by decide)))
 refine kd [] [(3, some y2)] mo (wM <| wM <| wM <| wE (zS yT 1) <| wE (xN sh62) <| wE (zS vZ 0) <| wE (dH jR) <| wM <| wM <| wE (zS yT 1) <| wE (xN sh62) <| wE (zS vZ 1) <| wE (dH jR) <| wM <| wM <| wE (zS yT 1) <| wE (xN sh62) <| wE (zS vZ 2) <| wE (dH jR) <| wE (oBf uI nD nC) <| wR (kC jR) <| wE (kB (by have h := mH (Q10 a b c d) (Q11 a b c d) (Q12 a b c d) (qu bn4) (qu bn5) (qu bn6) (N4 a b c d) (qu bn10); rw [(Q10_n (a := a) (b := b) (c := c) (d := d) hn0), (Q11_n (a := a) (b := b) (c := c) (d := d) hn0), (Q12_n (a := a) (b := b) (c := c) (d := d) hn0)] at h; exact h)) <| wE (vL vK 1) <| wT (qG qX) <| wZ) ?_
 refine kx [(16, (kD 2))] [] (zE (uE 2 (hr := by decide)) <| zM <| zZ) ?_
 refine jJ (jW.refl _) ?_
 refine jA <| kx [(17, (vb true))] [] (zE (kR true qY) <| zZ) ?_
 refine jA <| jX ?_
 refine jB <| jA <| jE <| jA <| kP (wk (l := [(2, (.ref 1 0)), (3, (vl 62 1 qH [[(jD (Q00 a b c d)), (jD (Q01 a b c d)), (jD (Q02 a b c d))], [(jD (Q10 a b c d)), (jD (Q11 a b c d)), (jD (Q12 a b c d))], [(jD (Q20 a b c d)), (jD (Q21 a b c d)), (jD (Q22 a b c d))]])), (5, (.ref 2 0)), (6, (.ref 3 0)), (16, (kD 2)), (17, (vb true))]) (b := [(1, some y1), (2, some (bx (jP (jD (N4 a b c d))))), (3, some y2)])) ?_
 refine kx [(7, (kD 2))] [] (zM <| zM <| zZ) ?_
 have bn17 : QL (gI a b c d) 6 := (kF (Eq.symm (Q20_n (a := a) (b := b) (c := c) (d := d) hn0)) (jG (k := 6) bn7 bn10 (by decide)))
 have bn18 : QL (gJ a b c d) 6 := (kF (Eq.symm (Q21_n (a := a) (b := b) (c := c) (d := d) hn0)) (jG (k := 6) bn8 bn10 (by decide)))
 have bn19 : QL (xF a b c d) 6 := (kF (Eq.symm (Q22_n (a := a) (b := b) (c := c) (d := d) hn0)) (jG (k := 6) bn9 bn10 (by decide)))
 refine kd [] [(3, some y3)] mo (wM <| wM <| wM <| wE (zS yT 2) <| wE (xN sh62) <| wE (zS vZ 0) <| wE (dH jR) <| wM <| wM <| wE (zS yT 2) <| wE (xN sh62) <| wE (zS vZ 1) <| wE (dH jR) <| wM <| wM <| wE (zS yT 2) <| wE (xN sh62) <| wE (zS vZ 2) <| wE (dH jR) <| wE (oBf uI nD nC) <| wR (kC jR) <| wE (kB (by have h := mH (Q20 a b c d) (Q21 a b c d) (Q22 a b c d) (qu bn7) (qu bn8) (qu bn9) (N4 a b c d) (qu bn10); rw [(Q20_n (a := a) (b := b) (c := c) (d := d) hn0), (Q21_n (a := a) (b := b) (c := c) (d := d) hn0), (Q22_n (a := a) (b := b) (c := c) (d := d) hn0)] at h; exact h)) <| wE (vL vK 2) <| wT (qG qX) <| wZ) ?_
 refine kx [(16, (kD 3))] [] (zE (uE 3 (hr := by decide)) <| zM <| zZ) ?_
 refine jJ (jW.refl _) ?_
 refine jA <| kx [(17, (vb false))] [] (zE (kR false qY) <| zZ) ?_
 refine jA <| jT ?_
 refine kJ <| jA <| kx [] [(1, some y3)] (zR (kC nK) <| zT (qG nK) <| zZ) ?_
 refine jF ⟨_, (qS (cs := (bx (uA (A3.mk (A3.mk (jD (yX a b c d)) (jD (yW a b c d)) (jD (vX a b c d))) (A3.mk (jD (gC a b c d)) (jD (gD a b c d)) (jD (xD a b c d))) (A3.mk (jD (gI a b c d)) (jD (gJ a b c d)) (jD (xF a b c d))))))) (d := (uA (A3.mk (A3.mk (jD (yX a b c d)) (jD (yW a b c d)) (jD (vX a b c d))) (A3.mk (jD (gC a b c d)) (jD (gD a b c d)) (jD (xD a b c d))) (A3.mk (jD (gI a b c d)) (jD (gJ a b c d)) (jD (xF a b c d)))))) rfl rfl nK rfl rfl .nil), ?_⟩
 rfl
theorem qs_mat (a b c d : Int) (ha : -1048576 ≤ a ∧ a ≤ 1048576) (hb : -1048576 ≤ b ∧ b ≤ 1048576) (hc : -1048576 ≤ c ∧ c ≤ 1048576) (hd : -1048576 ≤ d ∧ d ≤ 1048576) (hq : nF a b c d = 0) : kH Tryz.prog 123 [(uR (jL.mk a b c d))] (mP (A3.mk (A3.mk (jD (yX a b c d)) (jD (yW a b c d)) (jD (vX a b c d))) (A3.mk (jD (gC a b c d)) (jD (gD a b c d)) (jD (xD a b c d))) (A3.mk (jD (gI a b c d)) (jD (gJ a b c d)) (jD (xF a b c d))))) := by
 have hn0 := nq_ne hq
 have hnq := gX ha hb hc hd
 let y4 := (A3.mk (jZ.mk (jI.mk false []) (jI.mk false [])) (jZ.mk (jI.mk false []) (jI.mk false [])) (jZ.mk (jI.mk false []) (jI.mk false [])))
 let y3 := (bx (mP (A3.mk (A3.mk (jD (yX a b c d)) (jD (yW a b c d)) (jD (vX a b c d))) (A3.mk (jD (gC a b c d)) (jD (gD a b c d)) (jD (xD a b c d))) (A3.mk (jD (gI a b c d)) (jD (gJ a b c d)) (jD (xF a b c d))))))
 let y2 := (bx (mP (A3.mk (A3.mk (jD (yX a b c d)) (jD (yW a b c d)) (jD (vX a b c d))) (A3.mk (jD (gC a b c d)) (jD (gD a b c d)) (jD (xD a b c d))) y4)))
 let y1 := (bx (mP (A3.mk y4 y4 y4)))
 refine jM Tryz.func123 rfl cb123 rfl ?_
 show uY _ _ _ _ ⟨[(0, (.d (uR (jL.mk a b c d))))], []⟩
 refine jA <| kx [(1, (.ref 0 0)), (2, (.ref 1 0))] [(0, some (bx (uR (jL.mk a b c d)))), (1, some y1)] (zN (vD 0) <| zN (uK 1 ze102 zo102) <| zZ) ?_
 refine jA ?_
 have bn1 : QL (Q00 a b c d) 3 := (kQ00)
 have bn2 : QL (Q01 a b c d) 3 := (kQ01)
 have bn3 : QL (Q02 a b c d) 3 := (kQ02)
 have bn4 : QL (Q10 a b c d) 3 := (kQ10)
 have bn5 : QL (Q11 a b c d) 3 := (kQ11)
 have bn6 : QL (Q12 a b c d) 3 := (kQ12)
 have bn7 : QL (Q20 a b c d) 3 := (kQ20)
 have bn8 : QL (Q21 a b c d) 3 := (kQ21)
 have bn9 : QL (Q22 a b c d) 3 := (kQ22)
 refine kx [(3, (vl 62 1 qH [[(jD (Q00 a b c d)), (jD (Q01 a b c d)), (jD (Q02 a b c d))], [(jD (Q10 a b c d)), (jD (Q11 a b c d)), (jD (Q12 a b c d))], [(jD (Q20 a b c d)), (jD (Q21 a b c d)), (jD (Q22 a b c d))]]))] [] (zR (kC yP) <| zE (kB (qs_rmat a b c d (by omega) (by omega) (by omega) (by omega) hq hn0)) <| zM <| zE vA <| zE vA <| zM <| zM <| zZ) ?_
 refine jA <| kx [(5, (.ref 2 0))] [(2, some y1)] (zE (oBa nV ze102 zo102) <| zN (uK 2 ze102 zo102) <| zT (qG sh102) <| zZ) ?_
 refine jA <| jA <| kx [(13, (kD 0))] [] (zM <| zZ) ?_
 refine jE <| qF 20 ?_
 refine qU <| jA <| kx [(14, (vb true))] [] (zE (kR true qY) <| zZ) ?_
 refine jA <| jX ?_
 refine jB <| jA <| jE <| jA <| kx [(6, (kD 0))] [] (zM <| zM <| zZ) ?_
 have bn10 : QL (N4 a b c d) 3 := (kN4)
 have bn11 : QL (yX a b c d) 6 := (kF (Eq.symm (Q00_n (a := a) (b := b) (c := c) (d := d) hn0)) (jG (k := 6) bn1 bn10 (by decide)))
 have bn12 : QL (yW a b c d) 6 := (kF (Eq.symm (Q01_n (a := a) (b := b) (c := c) (d := d) hn0)) (jG (k := 6) bn2 bn10 (by decide)))
 have bn13 : QL (vX a b c d) 6 := (kF (Eq.symm (Q02_n (a := a) (b := b) (c := c) (d := d) hn0)) (jG (k := 6) bn3 bn10 (by decide)))
 refine kd [] [(2, some (bx (mP (A3.mk (A3.mk (jD (yX a b c d)) (jD (yW a b c d)) (jD (vX a b c d))) y4 y4))))] mo (wM <| wM <| wM <| wE (zS yT 0) <| wE (xN sh62) <| wE (e_sap (cs := (kX.cells (jK (A3.mk (jD (Q00 a b c d)) (jD (Q01 a b c d)) (jD (Q02 a b c d)))))) (by exact rfl) xE (by exact rfl) (by kernel_rfl) (by kernel_rfl) (by kernel_rfl)) <| wE (dH uG) <| wR (kC yP) <| wE (kB (bR a b c d (by omega) (by omega) (by omega) (by omega))) <| wE (kB (by have h := yS (Q00 a b c d) (Q01 a b c d) (Q02 a b c d) (qu bn1) (qu bn2) (qu bn3) (N4 a b c d) (qu bn10); rw [(Q00_n (a := a) (b := b) (c := c) (d := d) hn0), (Q01_n (a := a) (b := b) (c := c) (d := d) hn0), (Q02_n (a := a) (b := b) (c := c) (d := d) hn0)] at h; exact h)) <| wE (vL nV 0) <| wT (qG uG) <| wZ) ?_
 refine kx [(13, (kD 1))] [] (zE (uE 1 (hr := by decide)) <| zM <| zZ) ?_
 refine jJ (jW.refl _) ?_
 refine jA <| kx [(14, (vb true))] [] (zE (kR true qY) <| zZ) ?_
 refine jA <| jX ?_
 refine jB <| jA <| jE <| jA <| kx [(6, (kD 1))] [] (zM <| zM <| zZ) ?_
 have bn14 : QL (gC a b c d) 6 := (kF (Eq.symm (Q10_n (a := a) (b := b) (c := c) (d := d) hn0)) (jG (k := 6) bn4 bn10 (by decide)))
 have bn15 : QL (gD a b c d) 6 := (kF (Eq.symm (Q11_n (a := a) (b := b) (c := c) (d := d) hn0)) (jG (k := 6) bn5 bn10 (by decide)))
 have bn16 : QL (xD a b c d) 6 := (kF (Eq.symm (Q12_n (a := a) (b := b) (c := c) (d := d) hn0)) (jG (k := 6) bn6 bn10 (by decide)))
 refine kd [] [(2, some y2)] mo (wM <| wM <| wM <| wE (zS yT 1) <| wE (xN sh62) <| wE (e_sap (cs := (kX.cells (jK (A3.mk (jD (Q10 a b c d)) (jD (Q11 a b c d)) (jD (Q12 a b c d)))))) (by exact rfl) xE (by exact rfl) (by kernel_rfl) (by kernel_rfl) (by kernel_rfl)) <| wE (dH uG) <| wR (kC yP) <| wE (kB (bR a b c d (by omega) (by omega) (by omega) (by omega))) <| wE (kB (by have h := yS (Q10 a b c d) (Q11 a b c d) (Q12 a b c d) (qu bn4) (qu bn5) (qu bn6) (N4 a b c d) (qu bn10); rw [(Q10_n (a := a) (b := b) (c := c) (d := d) hn0), (Q11_n (a := a) (b := b) (c := c) (d := d) hn0), (Q12_n (a := a) (b := b) (c := c) (d := d) hn0)] at h; exact h)) <| wE (vL nV 1) <| wT (qG uG) <| wZ) ?_
 refine kx [(13, (kD 2))] [] (zE (uE 2 (hr := by decide)) <| zM <| zZ) ?_
 refine jJ (jW.refl _) ?_
 refine jA <| kx [(14, (vb true))] [] (zE (kR true qY) <| zZ) ?_
 refine jA <| jX ?_
 refine jB <| jA <| jE <| jA <| kx [(6, (kD 2))] [] (zM <| zM <| zZ) ?_
 refine kP (wk (l := [(1, (.ref 0 0)), (2, (.ref 1 0)), (3, (vl 62 1 qH [[(jD (Q00 a b c d)), (jD (Q01 a b c d)), (jD (Q02 a b c d))], [(jD (Q10 a b c d)), (jD (Q11 a b c d)), (jD (Q12 a b c d))], [(jD (Q20 a b c d)), (jD (Q21 a b c d)), (jD (Q22 a b c d))]])), (5, (.ref 2 0)), (6, (kD 2)), (13, (kD 2))]) (b := [(0, some (bx (uR (jL.mk a b c d)))), (1, some y1), (2, some y2)])) ?_
 have bn17 : QL (gI a b c d) 6 := (kF (Eq.symm (Q20_n (a := a) (b := b) (c := c) (d := d) hn0)) (jG (k := 6) bn7 bn10 (by decide)))
 have bn18 : QL (gJ a b c d) 6 := (kF (Eq.symm (Q21_n (a := a) (b := b) (c := c) (d := d) hn0)) (jG (k := 6) bn8 bn10 (by decide)))
 have bn19 : QL (xF a b c d) 6 := (kF (Eq.symm (Q22_n (a := a) (b := b) (c := c) (d := d) hn0)) (jG (k := 6) bn9 bn10 (by decide)))
 refine kd [] [(2, some y3)] mo (wM <| wM <| wM <| wE (zS yT 2) <| wE (xN sh62) <| wE (e_sap (cs := (kX.cells (jK (A3.mk (jD (Q20 a b c d)) (jD (Q21 a b c d)) (jD (Q22 a b c d)))))) (by exact rfl) xE (by exact rfl) (by kernel_rfl) (by kernel_rfl) (by kernel_rfl)) <| wE (dH uG) <| wR (kC yP) <| wE (kB (bR a b c d (by omega) (by omega) (by omega) (by omega))) <| wE (kB (by have h := yS (Q20 a b c d) (Q21 a b c d) (Q22 a b c d) (qu bn7) (qu bn8) (qu bn9) (N4 a b c d) (qu bn10); rw [(Q20_n (a := a) (b := b) (c := c) (d := d) hn0), (Q21_n (a := a) (b := b) (c := c) (d := d) hn0), (Q22_n (a := a) (b := b) (c := c) (d := d) hn0)] at h; exact h)) <| wE (vL nV 2) <| wT (qG uG) <| wZ) ?_
 refine kx [(13, (kD 3))] [] (zE (uE 3 (hr := by decide)) <| zM <| zZ) ?_
 refine jJ (jW.refl _) ?_
 refine jA <| kx [(14, (vb false))] [] (zE (kR false qY) <| zZ) ?_
 refine jA <| jT ?_
 refine kJ <| jA <| kx [] [(1, some y3)] (zR (kC sh102) <| zT (qG sh102) <| zZ) ?_
 refine jF ⟨_, (qS (cs := (bx (mP (A3.mk (A3.mk (jD (yX a b c d)) (jD (yW a b c d)) (jD (vX a b c d))) (A3.mk (jD (gC a b c d)) (jD (gD a b c d)) (jD (xD a b c d))) (A3.mk (jD (gI a b c d)) (jD (gJ a b c d)) (jD (xF a b c d))))))) (d := (mP (A3.mk (A3.mk (jD (yX a b c d)) (jD (yW a b c d)) (jD (vX a b c d))) (A3.mk (jD (gC a b c d)) (jD (gD a b c d)) (jD (xD a b c d))) (A3.mk (jD (gI a b c d)) (jD (gJ a b c d)) (jD (xF a b c d)))))) rfl rfl sh102 rfl rfl .nil), ?_⟩
 rfl
theorem q_stn (sx sy sz sa sb sc sd sf su sv : Int) : kH Tryz.prog 220 [(uT (kG.mk (jQ.mk sx sy sz) (jL.mk sa sb sc sd) sf (jU.mk su sv)))] (.val (.int .i64 ((((uQ sx sy sz su sv sf sa sb sc sd) : Nat) : Int)))) := by
 refine jM Tryz.func220 rfl cb220 rfl ?_
 show uY _ _ _ _ ⟨[(0, (.d (uT (kG.mk (jQ.mk sx sy sz) (jL.mk sa sb sc sd) sf (jU.mk su sv)))))], []⟩
 refine jA <| kx [(1, (.ref 0 0))] [(0, some (bx (uT (kG.mk (jQ.mk sx sy sz) (jL.mk sa sb sc sd) sf (jU.mk su sv)))))] (zN (vD 0) <| zM <| zZ) ?_
 refine jA <| jA <| kx [(20, (vl 3 1 qL [sx, sy, sz, su, sv])), (21, (kD 5)), (22, (kD 0))] [] (zE (kE gE) <| zE (kE dF) <| zR (qR qP) <| zE (kE gE) <| zE (kE dM) <| zR (qR qP) <| zE (kE gE) <| zE (kE dL) <| zR (qR qP) <| zE (kE aR) <| zE (kE uW) <| zR (qR qP) <| zE (kE aR) <| zE (kE uV) <| zR (qR qP) <| zE (mC uB ze3 zo3) <| zE (bJ uB 5) <| zM <| zZ) ?_
 refine jE <| qF 20 ?_
 refine qU <| jA <| kx [(23, (vb true))] [] (zE (kR true qY) <| zZ) ?_
 refine jA <| jX ?_
 refine jB <| jA <| jE <| jA <| kx [(4, (vi sx))] [] (zE (zS uB 0) <| zE (xN qP) <| zM <| zZ) ?_
 refine jA <| kx [(31, (vb (decide (sx < -1048576) || decide (((1048576 : Nat) : Int) < sx))))] [] ?_ ?_
 ·refine zM <| zE qY <| zE (oV (vb (decide (sx < -1048576))) (uS (by kernel_rfl))) <| ?_
  rcases hb1 : (decide (sx < -1048576)) with _ | _
  ·replace hb1 := of_decide_eq_false hb1
   exact zM <| zE yZ <| zE eT <| zZ
  ·replace hb1 := of_decide_eq_true hb1
   exact zK <| zK <| zE yH <| zZ
 refine jO rfl (fun h2 => ?_) (fun h2 => ?_)
 ·refine jA <| kx [(2, (kD 2))] [] (zM <| zZ) ?_
  refine jF ⟨_, (.tmp (d := (.val (.int .i64 (((2 : Nat) : Int))))) rfl .nil), ?_⟩
  first | (rw [show uQ sx sy sz su sv sf sa sb sc sd = nF sa sb sc sd from dG (by unfold mU; simp_all <;> omega)]; rfl) | (rw [show uQ sx sy sz su sv sf sa sb sc sd = 2 from cV (by unfold mU; simp_all <;> omega)]; rfl)
 ·refine jB <| kx [(22, (kD 1))] [] (zE (uE 1 (hr := by decide)) <| zM <| zZ) ?_
  refine jJ (jW.refl _) ?_
  refine jA <| kx [(23, (vb true))] [] (zE (kR true qY) <| zZ) ?_
  refine jA <| jX ?_
  refine jB <| jA <| jE <| jA <| kx [(4, (vi sy))] [] (zE (zS uB 1) <| zE (xN qP) <| zM <| zZ) ?_
  refine jA <| kx [(31, (vb (decide (sy < -1048576) || decide (((1048576 : Nat) : Int) < sy))))] [] ?_ ?_
  ·refine zM <| zE qY <| zE (oV (vb (decide (sy < -1048576))) (uS (by kernel_rfl))) <| ?_
   rcases hb3 : (decide (sy < -1048576)) with _ | _
   ·replace hb3 := of_decide_eq_false hb3
    exact zM <| zE yZ <| zE eT <| zZ
   ·replace hb3 := of_decide_eq_true hb3
    exact zK <| zK <| zE yH <| zZ
  refine jO rfl (fun h4 => ?_) (fun h4 => ?_)
  ·refine jA <| kx [(2, (kD 2))] [] (zM <| zZ) ?_
   refine jF ⟨_, (.tmp (d := (.val (.int .i64 (((2 : Nat) : Int))))) rfl .nil), ?_⟩
   first | (rw [show uQ sx sy sz su sv sf sa sb sc sd = nF sa sb sc sd from dG (by unfold mU; simp_all <;> omega)]; rfl) | (rw [show uQ sx sy sz su sv sf sa sb sc sd = 2 from cV (by unfold mU; simp_all <;> omega)]; rfl)
  ·refine jB <| kx [(22, (kD 2))] [] (zE (uE 2 (hr := by decide)) <| zM <| zZ) ?_
   refine jJ (jW.refl _) ?_
   refine jA <| kx [(23, (vb true))] [] (zE (kR true qY) <| zZ) ?_
   refine jA <| jX ?_
   refine jB <| jA <| jE <| jA <| kx [(4, (vi sz))] [] (zE (zS uB 2) <| zE (xN qP) <| zM <| zZ) ?_
   refine jA <| kx [(31, (vb (decide (sz < -1048576) || decide (((1048576 : Nat) : Int) < sz))))] [] ?_ ?_
   ·refine zM <| zE qY <| zE (oV (vb (decide (sz < -1048576))) (uS (by kernel_rfl))) <| ?_
    rcases hb5 : (decide (sz < -1048576)) with _ | _
    ·replace hb5 := of_decide_eq_false hb5
     exact zM <| zE yZ <| zE eT <| zZ
    ·replace hb5 := of_decide_eq_true hb5
     exact zK <| zK <| zE yH <| zZ
   refine jO rfl (fun h6 => ?_) (fun h6 => ?_)
   ·refine jA <| kx [(2, (kD 2))] [] (zM <| zZ) ?_
    refine jF ⟨_, (.tmp (d := (.val (.int .i64 (((2 : Nat) : Int))))) rfl .nil), ?_⟩
    first | (rw [show uQ sx sy sz su sv sf sa sb sc sd = nF sa sb sc sd from dG (by unfold mU; simp_all <;> omega)]; rfl) | (rw [show uQ sx sy sz su sv sf sa sb sc sd = 2 from cV (by unfold mU; simp_all <;> omega)]; rfl)
   ·refine jB <| kx [(22, (kD 3))] [] (zE (uE 3 (hr := by decide)) <| zM <| zZ) ?_
    refine jJ (jW.refl _) ?_
    refine jA <| kP (wk (l := [(1, (.ref 0 0)), (20, (vl 3 1 qL [sx, sy, sz, su, sv])), (21, (kD 5)), (22, (kD 3))]) (b := [(0, some (bx (uT (kG.mk (jQ.mk sx sy sz) (jL.mk sa sb sc sd) sf (jU.mk su sv)))))])) ?_
    refine kx [(23, (vb true))] [] (zE (kR true qY) <| zZ) ?_
    refine jA <| jX ?_
    refine jB <| jA <| jE <| jA <| kx [(4, (vi su))] [] (zE (zS uB 3) <| zE (xN qP) <| zM <| zZ) ?_
    refine jA <| kx [(31, (vb (decide (su < -1048576) || decide (((1048576 : Nat) : Int) < su))))] [] ?_ ?_
    ·refine zM <| zE qY <| zE (oV (vb (decide (su < -1048576))) (uS (by kernel_rfl))) <| ?_
     rcases hb7 : (decide (su < -1048576)) with _ | _
     ·replace hb7 := of_decide_eq_false hb7
      exact zM <| zE yZ <| zE eT <| zZ
     ·replace hb7 := of_decide_eq_true hb7
      exact zK <| zK <| zE yH <| zZ
    refine jO rfl (fun h8 => ?_) (fun h8 => ?_)
    ·refine jA <| kx [(2, (kD 2))] [] (zM <| zZ) ?_
     refine jF ⟨_, (.tmp (d := (.val (.int .i64 (((2 : Nat) : Int))))) rfl .nil), ?_⟩
     first | (rw [show uQ sx sy sz su sv sf sa sb sc sd = nF sa sb sc sd from dG (by unfold mU; simp_all <;> omega)]; rfl) | (rw [show uQ sx sy sz su sv sf sa sb sc sd = 2 from cV (by unfold mU; simp_all <;> omega)]; rfl)
    ·refine jB <| kx [(22, (kD 4))] [] (zE (uE 4 (hr := by decide)) <| zM <| zZ) ?_
     refine jJ (jW.refl _) ?_
     refine jA <| kx [(23, (vb true))] [] (zE (kR true qY) <| zZ) ?_
     refine jA <| jX ?_
     refine jB <| jA <| jE <| jA <| kx [(4, (vi sv))] [] (zE (zS uB 4) <| zE (xN qP) <| zM <| zZ) ?_
     refine jA <| kx [(31, (vb (decide (sv < -1048576) || decide (((1048576 : Nat) : Int) < sv))))] [] ?_ ?_
     ·refine zM <| zE qY <| zE (oV (vb (decide (sv < -1048576))) (uS (by kernel_rfl))) <| ?_
      rcases hb9 : (decide (sv < -1048576)) with _ | _
      ·replace hb9 := of_decide_eq_false hb9
       exact zM <| zE yZ <| zE eT <| zZ
      ·replace hb9 := of_decide_eq_true hb9
       exact zK <| zK <| zE yH <| zZ
     refine jO rfl (fun h10 => ?_) (fun h10 => ?_)
     ·refine jA <| kx [(2, (kD 2))] [] (zM <| zZ) ?_
      refine jF ⟨_, (.tmp (d := (.val (.int .i64 (((2 : Nat) : Int))))) rfl .nil), ?_⟩
      first | (rw [show uQ sx sy sz su sv sf sa sb sc sd = nF sa sb sc sd from dG (by unfold mU; simp_all <;> omega)]; rfl) | (rw [show uQ sx sy sz su sv sf sa sb sc sd = 2 from cV (by unfold mU; simp_all <;> omega)]; rfl)
     ·refine jB <| kx [(22, (kD 5))] [] (zE (uE 5 (hr := by decide)) <| zM <| zZ) ?_
      refine jJ (jW.refl _) ?_
      refine jA <| kx [(23, (vb false))] [] (zE (kR false qY) <| zZ) ?_
      refine jA <| jT ?_
      refine kJ <| jA <| jA <| kx [(40, (vb (decide (sf < ((1 : Nat) : Int)) || decide (((1048576 : Nat) : Int) < sf))))] [] ?_ ?_
      ·refine zE (kE fo56_2) <| zR (qR qP) <| zE qY <| zE (oV (vb (decide (sf < ((1 : Nat) : Int)))) (uS (by kernel_rfl))) <| ?_
       rcases hb11 : (decide (sf < ((1 : Nat) : Int))) with _ | _
       ·replace hb11 := of_decide_eq_false hb11
        exact zE (kE fo56_2) <| zR (qR qP) <| zE yZ <| zE eT <| zZ
       ·replace hb11 := of_decide_eq_true hb11
        exact zK <| zK <| zK <| zE yH <| zZ
      refine jO rfl (fun h12 => ?_) (fun h12 => ?_)
      ·refine jA <| kx [(2, (kD 2))] [] (zM <| zZ) ?_
       refine jF ⟨_, (.tmp (d := (.val (.int .i64 (((2 : Nat) : Int))))) rfl .nil), ?_⟩
       first | (rw [show uQ sx sy sz su sv sf sa sb sc sd = nF sa sb sc sd from dG (by unfold mU; simp_all <;> omega)]; rfl) | (rw [show uQ sx sy sz su sv sf sa sb sc sd = 2 from cV (by unfold mU; simp_all <;> omega)]; rfl)
      ·refine jB <| jA <| kx [(2, (kD (nF sa sb sc sd)))] [] (zE (kE gB) <| zR (kC yP) <| zE (kB (q_chk sa sb sc sd)) <| zM <| zZ) ?_
       refine jF ⟨_, (.tmp (d := (.val (.int .i64 ((((nF sa sb sc sd) : Nat) : Int))))) rfl .nil), ?_⟩
       first | (rw [show uQ sx sy sz su sv sf sa sb sc sd = nF sa sb sc sd from dG (by unfold mU; simp_all <;> omega)]; rfl) | (rw [show uQ sx sy sz su sv sf sa sb sc sd = 2 from cV (by unfold mU; simp_all <;> omega)]; rfl)
theorem qs_stn (sx sy sz sa sb sc sd sf su sv : Int) : kH Tryz.prog 118 [(uT (kG.mk (jQ.mk sx sy sz) (jL.mk sa sb sc sd) sf (jU.mk su sv)))] (.val (.int .i64 ((((uQ sx sy sz su sv sf sa sb sc sd) : Nat) : Int)))) := by
 refine jM Tryz.func118 rfl cb118 rfl ?_
 show uY _ _ _ _ ⟨[(0, (.d (uT (kG.mk (jQ.mk sx sy sz) (jL.mk sa sb sc sd) sf (jU.mk su sv)))))], []⟩
 refine jA <| kx [(1, (.ref 0 0))] [(0, some (bx (uT (kG.mk (jQ.mk sx sy sz) (jL.mk sa sb sc sd) sf (jU.mk su sv)))))] (zN (vD 0) <| zM <| zZ) ?_
 refine jA <| jA <| kx [(20, (vl 3 1 qL [sx, sy, sz, su, sv])), (21, (kD 5)), (22, (kD 0))] [] (zE (kE gE) <| zE (kE dF) <| zR (qR qP) <| zE (kE gE) <| zE (kE dM) <| zR (qR qP) <| zE (kE gE) <| zE (kE dL) <| zR (qR qP) <| zE (kE aR) <| zE (kE uW) <| zR (qR qP) <| zE (kE aR) <| zE (kE uV) <| zR (qR qP) <| zE (mC uB ze3 zo3) <| zE (bJ uB 5) <| zM <| zZ) ?_
 refine jE <| qF 20 ?_
 refine qU <| jA <| kx [(23, (vb true))] [] (zE (kR true qY) <| zZ) ?_
 refine jA <| jX ?_
 refine jB <| jA <| jE <| jA <| kx [(4, (vi sx))] [] (zE (zS uB 0) <| zE (xN qP) <| zM <| zZ) ?_
 refine jA <| kx [(31, (vb (decide (sx < -1048576) || decide (((1048576 : Nat) : Int) < sx))))] [] ?_ ?_
 ·refine zM <| zE qY <| zE (oV (vb (decide (sx < -1048576))) (uS (by kernel_rfl))) <| ?_
  rcases hb1 : (decide (sx < -1048576)) with _ | _
  ·replace hb1 := of_decide_eq_false hb1
   exact zM <| zE yZ <| zE eT <| zZ
  ·replace hb1 := of_decide_eq_true hb1
   exact zK <| zK <| zE yH <| zZ
 refine jO rfl (fun h2 => ?_) (fun h2 => ?_)
 ·refine jA <| kx [(2, (kD 2))] [] (zM <| zZ) ?_
  refine jF ⟨_, (.tmp (d := (.val (.int .i64 (((2 : Nat) : Int))))) rfl .nil), ?_⟩
  first | (rw [show uQ sx sy sz su sv sf sa sb sc sd = nF sa sb sc sd from dG (by unfold mU; simp_all <;> omega)]; rfl) | (rw [show uQ sx sy sz su sv sf sa sb sc sd = 2 from cV (by unfold mU; simp_all <;> omega)]; rfl)
 ·refine jB <| kx [(22, (kD 1))] [] (zE (uE 1 (hr := by decide)) <| zM <| zZ) ?_
  refine jJ (jW.refl _) ?_
  refine jA <| kx [(23, (vb true))] [] (zE (kR true qY) <| zZ) ?_
  refine jA <| jX ?_
  refine jB <| jA <| jE <| jA <| kx [(4, (vi sy))] [] (zE (zS uB 1) <| zE (xN qP) <| zM <| zZ) ?_
  refine jA <| kx [(31, (vb (decide (sy < -1048576) || decide (((1048576 : Nat) : Int) < sy))))] [] ?_ ?_
  ·refine zM <| zE qY <| zE (oV (vb (decide (sy < -1048576))) (uS (by kernel_rfl))) <| ?_
   rcases hb3 : (decide (sy < -1048576)) with _ | _
   ·replace hb3 := of_decide_eq_false hb3
    exact zM <| zE yZ <| zE eT <| zZ
   ·replace hb3 := of_decide_eq_true hb3
    exact zK <| zK <| zE yH <| zZ
  refine jO rfl (fun h4 => ?_) (fun h4 => ?_)
  ·refine jA <| kx [(2, (kD 2))] [] (zM <| zZ) ?_
   refine jF ⟨_, (.tmp (d := (.val (.int .i64 (((2 : Nat) : Int))))) rfl .nil), ?_⟩
   first | (rw [show uQ sx sy sz su sv sf sa sb sc sd = nF sa sb sc sd from dG (by unfold mU; simp_all <;> omega)]; rfl) | (rw [show uQ sx sy sz su sv sf sa sb sc sd = 2 from cV (by unfold mU; simp_all <;> omega)]; rfl)
  ·refine jB <| kx [(22, (kD 2))] [] (zE (uE 2 (hr := by decide)) <| zM <| zZ) ?_
   refine jJ (jW.refl _) ?_
   refine jA <| kx [(23, (vb true))] [] (zE (kR true qY) <| zZ) ?_
   refine jA <| jX ?_
   refine jB <| jA <| jE <| jA <| kx [(4, (vi sz))] [] (zE (zS uB 2) <| zE (xN qP) <| zM <| zZ) ?_
   refine jA <| kx [(31, (vb (decide (sz < -1048576) || decide (((1048576 : Nat) : Int) < sz))))] [] ?_ ?_
   ·refine zM <| zE qY <| zE (oV (vb (decide (sz < -1048576))) (uS (by kernel_rfl))) <| ?_
    rcases hb5 : (decide (sz < -1048576)) with _ | _
    ·replace hb5 := of_decide_eq_false hb5
     exact zM <| zE yZ <| zE eT <| zZ
    ·replace hb5 := of_decide_eq_true hb5
     exact zK <| zK <| zE yH <| zZ
   refine jO rfl (fun h6 => ?_) (fun h6 => ?_)
   ·refine jA <| kx [(2, (kD 2))] [] (zM <| zZ) ?_
    refine jF ⟨_, (.tmp (d := (.val (.int .i64 (((2 : Nat) : Int))))) rfl .nil), ?_⟩
    first | (rw [show uQ sx sy sz su sv sf sa sb sc sd = nF sa sb sc sd from dG (by unfold mU; simp_all <;> omega)]; rfl) | (rw [show uQ sx sy sz su sv sf sa sb sc sd = 2 from cV (by unfold mU; simp_all <;> omega)]; rfl)
   ·refine jB <| kx [(22, (kD 3))] [] (zE (uE 3 (hr := by decide)) <| zM <| zZ) ?_
    refine jJ (jW.refl _) ?_
    refine jA <| kP (wk (l := [(1, (.ref 0 0)), (20, (vl 3 1 qL [sx, sy, sz, su, sv])), (21, (kD 5)), (22, (kD 3))]) (b := [(0, some (bx (uT (kG.mk (jQ.mk sx sy sz) (jL.mk sa sb sc sd) sf (jU.mk su sv)))))])) ?_
    refine kx [(23, (vb true))] [] (zE (kR true qY) <| zZ) ?_
    refine jA <| jX ?_
    refine jB <| jA <| jE <| jA <| kx [(4, (vi su))] [] (zE (zS uB 3) <| zE (xN qP) <| zM <| zZ) ?_
    refine jA <| kx [(31, (vb (decide (su < -1048576) || decide (((1048576 : Nat) : Int) < su))))] [] ?_ ?_
    ·refine zM <| zE qY <| zE (oV (vb (decide (su < -1048576))) (uS (by kernel_rfl))) <| ?_
     rcases hb7 : (decide (su < -1048576)) with _ | _
     ·replace hb7 := of_decide_eq_false hb7
      exact zM <| zE yZ <| zE eT <| zZ
     ·replace hb7 := of_decide_eq_true hb7
      exact zK <| zK <| zE yH <| zZ
    refine jO rfl (fun h8 => ?_) (fun h8 => ?_)
    ·refine jA <| kx [(2, (kD 2))] [] (zM <| zZ) ?_
     refine jF ⟨_, (.tmp (d := (.val (.int .i64 (((2 : Nat) : Int))))) rfl .nil), ?_⟩
     first | (rw [show uQ sx sy sz su sv sf sa sb sc sd = nF sa sb sc sd from dG (by unfold mU; simp_all <;> omega)]; rfl) | (rw [show uQ sx sy sz su sv sf sa sb sc sd = 2 from cV (by unfold mU; simp_all <;> omega)]; rfl)
    ·refine jB <| kx [(22, (kD 4))] [] (zE (uE 4 (hr := by decide)) <| zM <| zZ) ?_
     refine jJ (jW.refl _) ?_
     refine jA <| kx [(23, (vb true))] [] (zE (kR true qY) <| zZ) ?_
     refine jA <| jX ?_
     refine jB <| jA <| jE <| jA <| kx [(4, (vi sv))] [] (zE (zS uB 4) <| zE (xN qP) <| zM <| zZ) ?_
     refine jA <| kx [(31, (vb (decide (sv < -1048576) || decide (((1048576 : Nat) : Int) < sv))))] [] ?_ ?_
     ·refine zM <| zE qY <| zE (oV (vb (decide (sv < -1048576))) (uS (by kernel_rfl))) <| ?_
      rcases hb9 : (decide (sv < -1048576)) with _ | _
      ·replace hb9 := of_decide_eq_false hb9
       exact zM <| zE yZ <| zE eT <| zZ
      ·replace hb9 := of_decide_eq_true hb9
       exact zK <| zK <| zE yH <| zZ
     refine jO rfl (fun h10 => ?_) (fun h10 => ?_)
     ·refine jA <| kx [(2, (kD 2))] [] (zM <| zZ) ?_
      refine jF ⟨_, (.tmp (d := (.val (.int .i64 (((2 : Nat) : Int))))) rfl .nil), ?_⟩
      first | (rw [show uQ sx sy sz su sv sf sa sb sc sd = nF sa sb sc sd from dG (by unfold mU; simp_all <;> omega)]; rfl) | (rw [show uQ sx sy sz su sv sf sa sb sc sd = 2 from cV (by unfold mU; simp_all <;> omega)]; rfl)
     ·refine jB <| kx [(22, (kD 5))] [] (zE (uE 5 (hr := by decide)) <| zM <| zZ) ?_
      refine jJ (jW.refl _) ?_
      refine jA <| kx [(23, (vb false))] [] (zE (kR false qY) <| zZ) ?_
      refine jA <| jT ?_
      refine kJ <| jA <| jA <| kx [(40, (vb (decide (sf < ((1 : Nat) : Int)) || decide (((1048576 : Nat) : Int) < sf))))] [] ?_ ?_
      ·refine zE (kE fo56_2) <| zR (qR qP) <| zE qY <| zE (oV (vb (decide (sf < ((1 : Nat) : Int)))) (uS (by kernel_rfl))) <| ?_
       rcases hb11 : (decide (sf < ((1 : Nat) : Int))) with _ | _
       ·replace hb11 := of_decide_eq_false hb11
        exact zE (kE fo56_2) <| zR (qR qP) <| zE yZ <| zE eT <| zZ
       ·replace hb11 := of_decide_eq_true hb11
        exact zK <| zK <| zK <| zE yH <| zZ
      refine jO rfl (fun h12 => ?_) (fun h12 => ?_)
      ·refine jA <| kx [(2, (kD 2))] [] (zM <| zZ) ?_
       refine jF ⟨_, (.tmp (d := (.val (.int .i64 (((2 : Nat) : Int))))) rfl .nil), ?_⟩
       first | (rw [show uQ sx sy sz su sv sf sa sb sc sd = nF sa sb sc sd from dG (by unfold mU; simp_all <;> omega)]; rfl) | (rw [show uQ sx sy sz su sv sf sa sb sc sd = 2 from cV (by unfold mU; simp_all <;> omega)]; rfl)
      ·refine jB <| jA <| kx [(2, (kD (nF sa sb sc sd)))] [] (zE (kE gB) <| zR (kC yP) <| zE (kB (qs_chk sa sb sc sd)) <| zM <| zZ) ?_
       refine jF ⟨_, (.tmp (d := (.val (.int .i64 ((((nF sa sb sc sd) : Nat) : Int))))) rfl .nil), ?_⟩
       first | (rw [show uQ sx sy sz su sv sf sa sb sc sd = nF sa sb sc sd from dG (by unfold mU; simp_all <;> omega)]; rfl) | (rw [show uQ sx sy sz su sv sf sa sb sc sd = 2 from cV (by unfold mU; simp_all <;> omega)]; rfl)
theorem q_inner (sx sy sz sa sb sc sd sf su sv : Int) (hsu : -1048576 ≤ su ∧ su ≤ 1048576) (hsv : -1048576 ≤ sv ∧ sv ≤ 1048576) (hsf : 1 ≤ sf ∧ sf ≤ 1048576) : kH Tryz.prog 209 [(uT (kG.mk (jQ.mk sx sy sz) (jL.mk sa sb sc sd) sf (jU.mk su sv)))] (uA (A3.mk (A3.mk (jD ((1 : Int) : Rat)) (jD ((0 : Int) : Rat)) (jD ((-su : Int) : Rat))) (A3.mk (jD ((0 : Int) : Rat)) (jD ((1 : Int) : Rat)) (jD ((-sv : Int) : Rat))) (A3.mk (jD ((0 : Int) : Rat)) (jD ((0 : Int) : Rat)) (jD ((sf : Int) : Rat))))) := by
 let y1 := (A3.mk (jZ.mk (jI.mk false []) (jI.mk false [])) (jZ.mk (jI.mk false []) (jI.mk false [])) (jZ.mk (jI.mk false []) (jI.mk false [])))
 refine jM Tryz.func209 rfl cb209 rfl ?_
 show uY _ _ _ _ ⟨[(0, (.d (uT (kG.mk (jQ.mk sx sy sz) (jL.mk sa sb sc sd) sf (jU.mk su sv)))))], []⟩
 refine jA <| kx [(1, (.ref 0 0)), (2, (.ref 1 0))] [(0, some (bx (uT (kG.mk (jQ.mk sx sy sz) (jL.mk sa sb sc sd) sf (jU.mk su sv))))), (1, some (bx (uA (A3.mk y1 y1 y1))))] (zN (vD 0) <| zN (uK 1 eI eK) <| zZ) ?_
 refine jA ?_
 have bn1 : QL ((1 : Int) : Rat) 3 := (qi 1)
 have bn2 : QL ((0 : Int) : Rat) 3 := (qi 0)
 have bn3 : QL ((-su : Int) : Rat) 3 := (qi (-su))
 have bn4 : QL ((-sv : Int) : Rat) 3 := (qi (-sv))
 have bn5 : QL ((sf : Int) : Rat) 3 := (qi sf)
 refine kd [] [(1, some (bx (uA (A3.mk (A3.mk (jD ((1 : Int) : Rat)) (jD ((0 : Int) : Rat)) (jD ((-su : Int) : Rat))) (A3.mk (jD ((0 : Int) : Rat)) (jD ((1 : Int) : Rat)) (jD ((-sv : Int) : Rat))) (A3.mk (jD ((0 : Int) : Rat)) (jD ((0 : Int) : Rat)) (jD ((sf : Int) : Rat)))))))] mo (wE (kE aR) <| wE (kE uW) <| wR (qR qP) <| wE (oNg (-su)) <| wE (kB (q_whole ((1 : Nat) : Int) (by omega) (by omega) ((0 : Nat) : Int) (by omega) (by omega) (-su) (by omega) (by omega))) <| wE (kE aR) <| wE (kE uV) <| wR (qR qP) <| wE (oNg (-sv)) <| wE (kB (q_whole ((0 : Nat) : Int) (by omega) (by omega) ((1 : Nat) : Int) (by omega) (by omega) (-sv) (by omega) (by omega))) <| wE (kE fo56_2) <| wR (qR qP) <| wE (kB (q_whole ((0 : Nat) : Int) (by omega) (by omega) ((0 : Nat) : Int) (by omega) (by omega) sf (by omega) (by omega))) <| wE (oBf vK eI eK) <| wT (qG nK) <| wZ) ?_
 refine jF ⟨_, (qS (cs := (bx (uA (A3.mk (A3.mk (jD ((1 : Int) : Rat)) (jD ((0 : Int) : Rat)) (jD ((-su : Int) : Rat))) (A3.mk (jD ((0 : Int) : Rat)) (jD ((1 : Int) : Rat)) (jD ((-sv : Int) : Rat))) (A3.mk (jD ((0 : Int) : Rat)) (jD ((0 : Int) : Rat)) (jD ((sf : Int) : Rat))))))) (d := (uA (A3.mk (A3.mk (jD ((1 : Int) : Rat)) (jD ((0 : Int) : Rat)) (jD ((-su : Int) : Rat))) (A3.mk (jD ((0 : Int) : Rat)) (jD ((1 : Int) : Rat)) (jD ((-sv : Int) : Rat))) (A3.mk (jD ((0 : Int) : Rat)) (jD ((0 : Int) : Rat)) (jD ((sf : Int) : Rat)))))) rfl rfl nK rfl rfl .nil), ?_⟩
 rfl
theorem q_red (a0 a1 a2 : Rat) (ha0 : QL a0 10000000) (ha1 : QL a1 10000000) (ha2 : QL a2 10000000) (hz : xO a0 a1 a2 = false) : kH Tryz.prog 224 [(jK (A3.mk (jD a0) (jD a1) (jD a2)))] (jK (A3.mk (jD (a0 * (yQ a0 a1 a2))) (jD (a1 * (yQ a0 a1 a2))) (jD (a2 * (yQ a0 a1 a2))))) := by
 refine jM Tryz.func224 rfl cb224 rfl ?_
 show uY _ _ _ _ ⟨[(0, (.d (jK (A3.mk (jD a0) (jD a1) (jD a2)))))], []⟩
 refine jA <| kx [(1, (.ref 0 0)), (2, (.ref 1 0))] [(0, some (bx (jK (A3.mk (jD a0) (jD a1) (jD a2))))), (1, some (bx (jK (A3.mk (jZ.mk (jI.mk false []) (jI.mk false [])) (jZ.mk (jI.mk false []) (jI.mk false [])) (jZ.mk (jI.mk false []) (jI.mk false []))))))] (zN (vD 0) <| zN (uK 1 nD nC) <| zZ) ?_
 refine jA ?_
 have bn1 : nO (kN (((Int.gcd a1.num a2.num : Nat) : Int))) (((Int.gcd a1.num a2.num : Nat) : Int)) 10000000 := (nH (k := 10000000) (uO ha1) (uO ha2) (by decide))
 have bn2 : nO (kN (((Int.gcd a0.num (((Int.gcd a1.num a2.num : Nat) : Int)) : Nat) : Int))) (((Int.gcd a0.num (((Int.gcd a1.num a2.num : Nat) : Int)) : Nat) : Int)) 10000000 := (nH (k := 10000000) (uO ha0) bn1 (by decide))
 refine kd [(3, (.ref 2 0))] [(2, some (bx (jV (kN ((Int.gcd a0.num (((Int.gcd a1.num a2.num : Nat) : Int)) : Nat) : Int)))))] mo (wE (vL uI 0) <| wE (kE yI) <| wR (kC kK) <| wE (vL uI 1) <| wE (kE yI) <| wR (kC kK) <| wE (vL uI 2) <| wE (kE yI) <| wR (kC kK) <| wE (kB (s_gcd (uO ha1) (uO ha2) (by decide) (by decide))) <| wE (kB (s_gcd (uO ha0) bn1 (by decide) (by decide))) <| wN (uK 2 hH hM) <| wT (qG kK) <| wZ) ?_
 refine jA ?_
 have bn3 : QL (Rat.divInt 1 (((Int.gcd a0.num (((Int.gcd a1.num a2.num : Nat) : Int)) : Nat) : Int))) 10000000 := (uC (n := 10000000) (Nat.le_trans (nO.ln (mK (z := 1) (by decide))) (by decide)) (Nat.le_trans (nO.ln bn2) (by decide)) (by decide))
 refine kd [(4, (.ref 3 0))] [(3, some (bx (jP (jD (Rat.divInt 1 (((Int.gcd a0.num (((Int.gcd a1.num a2.num : Nat) : Int)) : Nat) : Int)))))))] mo (wE (kB (t_of 1 (by decide) (by decide))) <| wR (kC kK) <| wE (kB (f_newO (kN 1) 1 (nL (mK (z := 1) (by decide)) (by decide)) (kN ((Int.gcd a0.num (((Int.gcd a1.num a2.num : Nat) : Int)) : Nat) : Int)) (((Int.gcd a0.num (((Int.gcd a1.num a2.num : Nat) : Int)) : Nat) : Int)) (iu bn2) (gcd3_ne hz))) <| wM <| wE vA <| wE vA <| wN (uK 3 qZ uF) <| wT (qG jR) <| wM <| wZ) ?_
 refine jA <| kx [] [(1, some (bx (jK (A3.mk (jD (a0 * (Rat.divInt 1 (((Int.gcd a0.num (((Int.gcd a1.num a2.num : Nat) : Int)) : Nat) : Int))))) (jD (a1 * (Rat.divInt 1 (((Int.gcd a0.num (((Int.gcd a1.num a2.num : Nat) : Int)) : Nat) : Int))))) (jD (a2 * (Rat.divInt 1 (((Int.gcd a0.num (((Int.gcd a1.num a2.num : Nat) : Int)) : Nat) : Int)))))))))] (zR (kC qX) <| zR (kC jR) <| zE (kB (mH a0 a1 a2 (qu ha0) (qu ha1) (qu ha2) (Rat.divInt 1 (((Int.gcd a0.num (((Int.gcd a1.num a2.num : Nat) : Int)) : Nat) : Int))) (qu bn3))) <| zT (qG qX) <| zZ) ?_
 refine jF ⟨_, (qS (cs := (bx (jK (A3.mk (jD (a0 * (Rat.divInt 1 (((Int.gcd a0.num (((Int.gcd a1.num a2.num : Nat) : Int)) : Nat) : Int))))) (jD (a1 * (Rat.divInt 1 (((Int.gcd a0.num (((Int.gcd a1.num a2.num : Nat) : Int)) : Nat) : Int))))) (jD (a2 * (Rat.divInt 1 (((Int.gcd a0.num (((Int.gcd a1.num a2.num : Nat) : Int)) : Nat) : Int))))))))) (d := (jK (A3.mk (jD (a0 * (Rat.divInt 1 (((Int.gcd a0.num (((Int.gcd a1.num a2.num : Nat) : Int)) : Nat) : Int))))) (jD (a1 * (Rat.divInt 1 (((Int.gcd a0.num (((Int.gcd a1.num a2.num : Nat) : Int)) : Nat) : Int))))) (jD (a2 * (Rat.divInt 1 (((Int.gcd a0.num (((Int.gcd a1.num a2.num : Nat) : Int)) : Nat) : Int)))))))) rfl rfl qX rfl rfl .nil), ?_⟩
 rfl
theorem qs_red (a0 a1 a2 : Rat) (ha0 : QL a0 10000000) (ha1 : QL a1 10000000) (ha2 : QL a2 10000000) (hz : xO a0 a1 a2 = false) : kH Tryz.prog 127 [(jK (A3.mk (jD a0) (jD a1) (jD a2)))] (jK (A3.mk (jD (a0 * (yQ a0 a1 a2))) (jD (a1 * (yQ a0 a1 a2))) (jD (a2 * (yQ a0 a1 a2))))) := by
 let y2 := (jK (A3.mk (jD a0) (jD a1) (jD a2)))
 let y1 := (jZ.mk (jI.mk false []) (jI.mk false []))
 refine jM Tryz.func127 rfl cb127 rfl ?_
 show uY _ _ _ _ ⟨[(0, (.d y2))], []⟩
 refine jA <| kx [(1, (.ref 0 0)), (2, (.ref 1 0))] [(0, some (bx y2)), (1, some (bx (jK (A3.mk y1 y1 y1))))] (zN (vD 0) <| zN (uK 1 mY cC) <| zZ) ?_
 refine jA <| kx [(3, (.ref 2 0))] [(2, some (bx (jV (kN 0))))] (zE (kB (r_of 0 (by decide) (by decide))) <| zN (uK 2 hH hM) <| zT (qG kK) <| zZ) ?_
 refine jA <| jA <| kx [(9, (.d y2)), (10, (kD 0))] [] (zR (kC uG) <| zM <| zZ) ?_
 refine jE <| qF 20 ?_
 refine qU <| jA <| kx [(11, (vb true))] [] (zE (kR true qY) <| zZ) ?_
 refine jA <| jX ?_
 refine jB <| jA <| jE <| jA <| kx [(5, (.ref 3 0))] [(3, some (bx (jP (jD a0))))] (zE (oXa xE jR (fun h => by cases h) 0) <| zN (uK 3 qZ uF) <| zT (qG jR) <| zZ) ?_
 have bn1 : nO (kN (((Int.gcd 0 a0.num : Nat) : Int))) (((Int.gcd 0 a0.num : Nat) : Int)) 10000000 := (nH (k := 10000000) (mK (z := 0) (by decide)) (uO ha0) (by decide))
 refine kx [] [(2, some (bx (jV (kN ((Int.gcd 0 a0.num : Nat) : Int)))))] (zR (kC kK) <| zE (kE yI) <| zR (kC kK) <| zE (kB (rs_gcd (mK (z := 0) (by decide)) (uO ha0) (by decide) (by decide))) <| zT (qG kK) <| zZ) ?_
 refine kx [(10, (kD 1))] [] (zE (uE 1 (hr := by decide)) <| zM <| zZ) ?_
 refine jJ (jW.refl _) ?_
 refine jA <| kx [(11, (vb true))] [] (zE (kR true qY) <| zZ) ?_
 refine jA <| jX ?_
 refine jB <| jA <| jE <| jA <| kx [(5, (.ref 4 0))] [(4, some (bx (jP (jD a1))))] (zE (oXa xE jR (fun h => by cases h) 1) <| zN (uK 4 qZ uF) <| zT (qG jR) <| zZ) ?_
 have bn2 : nO (kN (((Int.gcd (((Int.gcd 0 a0.num : Nat) : Int)) a1.num : Nat) : Int))) (((Int.gcd (((Int.gcd 0 a0.num : Nat) : Int)) a1.num : Nat) : Int)) 10000000 := (nH (k := 10000000) bn1 (uO ha1) (by decide))
 refine kx [] [(2, some (bx (jV (kN ((Int.gcd (((Int.gcd 0 a0.num : Nat) : Int)) a1.num : Nat) : Int)))))] (zR (kC kK) <| zE (kE yI) <| zR (kC kK) <| zE (kB (rs_gcd bn1 (uO ha1) (by decide) (by decide))) <| zT (qG kK) <| zZ) ?_
 refine kx [(10, (kD 2))] [] (zE (uE 2 (hr := by decide)) <| zM <| zZ) ?_
 refine jJ (jW.refl _) ?_
 refine jA <| kx [(11, (vb true))] [] (zE (kR true qY) <| zZ) ?_
 refine jA <| jX ?_
 refine jB <| jA <| jE <| jA <| kx [(5, (.ref 5 0))] [(5, some (bx (jP (jD a2))))] (zE (oXa xE jR (fun h => by cases h) 2) <| zN (uK 5 qZ uF) <| zT (qG jR) <| zZ) ?_
 have bn3 : nO (kN (fH a0 a1 a2)) (fH a0 a1 a2) 10000000 := (iok_eqz (gcd3_ref a0 a1 a2).symm (nH (k := 10000000) bn2 (uO ha2) (by decide)))
 refine kx [] [(2, some (bx (jV (kN (fH a0 a1 a2)))))] (zR (kC kK) <| zE (kE yI) <| zR (kC kK) <| zE (kB (by have h := rs_gcd bn2 (uO ha2) (by decide) (by decide); rw [(gcd3_ref a0 a1 a2)] at h; exact h)) <| zT (qG kK) <| zZ) ?_
 refine kP (wk (l := [(1, (.ref 0 0)), (2, (.ref 1 0)), (3, (.ref 2 0)), (9, (.d y2)), (10, (kD 2))]) (b := [(0, some (bx y2)), (1, some (bx (jK (A3.mk y1 y1 y1)))), (2, some (bx (jV (kN (fH a0 a1 a2)))))])) ?_
 refine kx [(10, (kD 3))] [] (zE (uE 3 (hr := by decide)) <| zM <| zZ) ?_
 refine jJ (jW.refl _) ?_
 refine jA <| kx [(11, (vb false))] [] (zE (kR false qY) <| zZ) ?_
 refine jA <| jT ?_
 refine kJ <| jA ?_
 have bn4 : QL (Rat.divInt 1 (fH a0 a1 a2)) 10000000 := (uC (n := 10000000) (Nat.le_trans (nO.ln (mK (z := 1) (by decide))) (by decide)) (Nat.le_trans (nO.ln bn3) (by decide)) (by decide))
 refine kd [(6, (.ref 6 0))] [(6, some (bx (jP (jD (Rat.divInt 1 (fH a0 a1 a2))))))] mo (wE (kB (r_of 1 (by decide) (by decide))) <| wR (kC kK) <| wE (kB (g_newO (kN 1) 1 (nL (mK (z := 1) (by decide)) (by decide)) (kN (fH a0 a1 a2)) (fH a0 a1 a2) (iu bn3) (gcd3_ne hz))) <| wM <| wE vA <| wE vA <| wN (uK 6 qZ uF) <| wT (qG jR) <| wM <| wZ) ?_
 refine jA <| kx [] [(1, some (bx (jK (A3.mk (jD (a0 * (Rat.divInt 1 (fH a0 a1 a2)))) (jD (a1 * (Rat.divInt 1 (fH a0 a1 a2)))) (jD (a2 * (Rat.divInt 1 (fH a0 a1 a2))))))))] (zR (kC uG) <| zR (kC jR) <| zE (kB (yS a0 a1 a2 (qu ha0) (qu ha1) (qu ha2) (Rat.divInt 1 (fH a0 a1 a2)) (qu bn4))) <| zT (qG uG) <| zZ) ?_
 refine jF ⟨_, (qS (cs := (bx (jK (A3.mk (jD (a0 * (Rat.divInt 1 (fH a0 a1 a2)))) (jD (a1 * (Rat.divInt 1 (fH a0 a1 a2)))) (jD (a2 * (Rat.divInt 1 (fH a0 a1 a2)))))))) (d := (jK (A3.mk (jD (a0 * (Rat.divInt 1 (fH a0 a1 a2)))) (jD (a1 * (Rat.divInt 1 (fH a0 a1 a2)))) (jD (a2 * (Rat.divInt 1 (fH a0 a1 a2))))))) rfl rfl uG rfl rfl .nil), ?_⟩
 rfl
theorem q_isz (a0 a1 a2 : Rat) (ha0 : QL a0 100000000) (ha1 : QL a1 100000000) (ha2 : QL a2 100000000) : kH Tryz.prog 225 [(jK (A3.mk (jD a0) (jD a1) (jD a2)))] (.val (.bool ((xO a0 a1 a2)))) := by
 refine jM Tryz.func225 rfl cb225 rfl ?_
 show uY _ _ _ _ ⟨[(0, (.d (jK (A3.mk (jD a0) (jD a1) (jD a2)))))], []⟩
 refine jA <| kx [(1, (.ref 0 0))] [(0, some (bx (jK (A3.mk (jD a0) (jD a1) (jD a2)))))] (zN (vD 0) <| zM <| zZ) ?_
 refine jA <| kx [(2, (vb ((xV (jH a0 a1 a2 a0 a1 a2)) == 0)))] [] (zR (kC qX) <| zR (kC qX) <| zE (kB (q_dot a0 a1 a2 ha0 ha1 ha2 a0 a1 a2 ha0 ha1 ha2)) <| zE (kB (f_sign (jD (jH a0 a1 a2 a0 a1 a2)) (jH a0 a1 a2 a0 a1 a2) (jY (kA (jS (n := 100000000) (k := 600000002) ha0 ha1 ha2 ha0 ha1 ha2 (by decide))) (by decide)))) <| zE xK <| zM <| zZ) ?_
 refine jF ⟨_, (.tmp (d := (.val (.bool (((xV (jH a0 a1 a2 a0 a1 a2)) == 0))))) rfl .nil), ?_⟩
 rw [← zeroV_dot]; rfl
theorem qs_zero (a0 a1 a2 : Rat) (ha0 : QL a0 100000000) (ha1 : QL a1 100000000) (ha2 : QL a2 100000000) : kH Tryz.prog 126 [(jK (A3.mk (jD a0) (jD a1) (jD a2)))] (.val (.bool ((xO a0 a1 a2)))) := by
 refine jM Tryz.func126 rfl cb126 rfl ?_
 show uY _ _ _ _ ⟨[(0, (.d (jK (A3.mk (jD a0) (jD a1) (jD a2)))))], []⟩
 refine jA <| kx [(1, (.ref 0 0))] [(0, some (bx (jK (A3.mk (jD a0) (jD a1) (jD a2)))))] (zN (vD 0) <| zM <| zZ) ?_
 refine jA <| kx [(2, (vb ((((xV a0) == 0) && ((xV a1) == 0)) && ((xV a2) == 0))))] [] ?_ ?_
 ·refine zE (vL xE 0) <| zR (kC jR) <| zE (kB (bN (jD a0) a0 (jY (kA ha0) (by decide)))) <| zE xK <| zE (oV (vb ((xV a0) == 0)) (uS (by kernel_rfl))) <| ?_
  rcases hb1 : ((xV a0) == 0) with _ | _
  ·replace hb1 := ne_of_beq_false hb1
   exact zK <| zK <| zK <| zK <| zE zU <| zM <| zK <| zK <| zK <| zK <| zE zU <| zM <| zZ
  ·replace hb1 := eq_of_beq hb1
   refine zE (vL xE 1) <| zR (kC jR) <| zE (kB (bN (jD a1) a1 (jY (kA ha1) (by decide)))) <| zE xK <| zE oPa <| zE (oV (vb (true && ((xV a1) == 0))) (uS (by kernel_rfl))) <| ?_
   rcases hb2 : (true && ((xV a1) == 0)) with _ | _
   ·exact zK <| zK <| zK <| zK <| zE zU <| zM <| zZ
   ·exact zE (vL xE 2) <| zR (kC jR) <| zE (kB (bN (jD a2) a2 (jY (kA ha2) (by decide)))) <| zE xK <| zE oPa <| zM <| zZ
 refine jF ⟨_, (.tmp (d := (.val (.bool (((((xV a0) == 0) && ((xV a1) == 0)) && ((xV a2) == 0)))))) rfl .nil), ?_⟩
 rw [zeroV_sgn]; rfl
end Go.Proofs.YtapjldagikfcmaaGreat
