/- Part 27 of a proof: rules, plain facts, and functions walked. -/
import Derived.Test.YtnajallgoaiahaaGreatDoorM25
namespace Go.Proofs.YtnajallgoaiahaaGreatDoor
open Go.Fid
set_option maxRecDepth 4000
set_option linter.unusedVariables false
set_option linter.unusedSimpArgs false
theorem cb185 : callB Tryz.prog 185 = true := by kernel_rfl
theorem cb186 : callB Tryz.prog 186 = true := by kernel_rfl
theorem cb188 : callB Tryz.prog 188 = true := by kernel_rfl
theorem cb189 : callB Tryz.prog 189 = true := by kernel_rfl
theorem cb190 : callB Tryz.prog 190 = true := by kernel_rfl
theorem cb191 : callB Tryz.prog 191 = true := by kernel_rfl
theorem cb194 : callB Tryz.prog 194 = true := by kernel_rfl
theorem cb195 : callB Tryz.prog 195 = true := by kernel_rfl
theorem cb197 : callB Tryz.prog 197 = true := by kernel_rfl
theorem cb199 : callB Tryz.prog 199 = true := by kernel_rfl
theorem cb201 : callB Tryz.prog 201 = true := by kernel_rfl
theorem cb243 : callB Tryz.prog 243 = true := by kernel_rfl
theorem hH : zV Tryz.prog 83 1 = some 1 := by kernel_rfl
theorem fo83_3 : zV Tryz.prog 83 3 = some 3 := by kernel_rfl
theorem nS : zV Tryz.prog 95 0 = some 0 := by kernel_rfl
theorem xH : zV Tryz.prog 95 1 = some 8 := by kernel_rfl
theorem fo161_2 : zV Tryz.prog 161 2 = some 2 := by kernel_rfl
theorem sh70 : qU Tryz.prog 70 = some (false, 1) := by kernel_rfl
theorem mU : qU Tryz.prog 86 = some (false, 1) := by kernel_rfl
theorem gD (n : Nat) (x : jV) (a : R2) (ha : GL 67108864 a) : jW Tryz.prog 243 [(.cptr 1000000 (jV.cells (.agg [(.val (.int .i64 (((n : Nat) : Int)))), (.val (.int .i64 (((1 : Nat) : Int)))), (.val (.int .i64 (-1))), (x), (.val (.bool (false)))])) 0), (jG (kF a))] (jG (kF a)) := by
 refine jM Tryz.func243 rfl cb243 rfl ?_
 show qJ _ _ _ _ ⟨[(0, (.d (.cptr 1000000 (jV.cells (.agg [(.val (.int .i64 (((n : Nat) : Int)))), (.val (.int .i64 (((1 : Nat) : Int)))), (.val (.int .i64 (-1))), (x), (.val (.bool (false)))])) 0))), (1, (.d (jG (kF a))))], []⟩
 refine jB <| kx [(3, (.ref 0 0)), (4, (.ref 1 0))] [(0, some (bx (jG (kF a)))), (1, some (bx (jG (kD.mk (jJ.mk (jE.mk false []) (jE.mk false [])) (jJ.mk (jE.mk false []) (jE.mk false []))))))] (zN (uZ 0) <| zN (qS 1 uI uP) <| zZ) ?_
 refine jB <| jB <| kx [(9, (vb true))] [] (zM <| zE oNd <| zE (oFc fo161_2) <| zE (gK nF) <| zE (uX true vW) <| zZ) ?_
 refine qL ?_
 refine jB <| kx [] [(1, some (bx (jG (kF a))))] (zR (kK kS) <| zT (qF kS) <| zZ) ?_
 refine jH ⟨_, (qA (cs := (bx (jG (kF a)))) (d := (jG (kF a))) rfl rfl kS rfl rfl .nil), ?_⟩
 rfl
theorem j_negop (a : R2) (ha : GL 67108864 a) (b : R2) (hb : GL 67108864 b) (zz : R2) (hzz : GL 3 zz) : jW Tryz.prog 194 [(jG (kF a)), (jG (kF b)), (.cptr 1000000 (jV.cells (jG (kF zz))) 0)] (jG (kF (kW zz a))) := by
 refine jM Tryz.func194 rfl cb194 rfl ?_
 show qJ _ _ _ _ ⟨[(0, (.d (jG (kF a)))), (1, (.d (jG (kF b)))), (2, (.d (.cptr 1000000 (jV.cells (jG (kF zz))) 0)))], []⟩
 refine jB <| kx [(3, (.ref 0 0)), (5, (.ref 2 0))] [(0, some (bx (jG (kF a)))), (2, some (bx (jG (kD.mk (jJ.mk (jE.mk false []) (jE.mk false [])) (jJ.mk (jE.mk false []) (jE.mk false [])))))), (1, none)] (zN (uZ 0) <| zN (uZ 1) <| zN (qS 2 uI uP) <| zZ) ?_
 refine jB <| kx [] [(2, some (bx (jG (kF (kW zz a)))))] (zE (gH kS) <| zR (kK kS) <| zE (kG (j_sub zz (vC hzz (by decide)) a ha)) <| zT (qF kS) <| zZ) ?_
 refine jH ⟨_, (qA (cs := (bx (jG (kF (kW zz a))))) (d := (jG (kF (kW zz a)))) rfl rfl kS rfl rfl .nil), ?_⟩
 rfl
theorem j_vAdd (n : Nat) (u : JV) (hu : mG 1048576 n u) (v : JV) (hv : mG 1048576 n v) : jW Tryz.prog 185 [(.cptr 1000000 (jV.cells (.val (.func (.func 192) #[] #[]))) 0), (.cptr 1000000 (jV.cells (jC (jP u))) 0), (.cptr 1000000 (jV.cells (jC (jP v))) 0)] (jG (kF (qX u.v v.v))) := by
 refine jM Tryz.func185 rfl cb185 rfl ?_
 show qJ _ _ _ _ ⟨[(0, (.d (.cptr 1000000 (jV.cells (.val (.func (.func 192) #[] #[]))) 0))), (1, (.d (.cptr 1000000 (jV.cells (jC (jP u))) 0))), (2, (.d (.cptr 1000000 (jV.cells (jC (jP v))) 0)))], []⟩
 refine jB <| kx [(3, (.ref 0 0))] [(0, some (bx (jG (kD.mk (jJ.mk (jE.mk false []) (jE.mk false [])) (jJ.mk (jE.mk false []) (jE.mk false []))))))] (zN (qS 0 uI uP) <| zZ) ?_
 refine jB <| kx [] [(0, some (bx (jG (kF (qX u.v v.v)))))] (zE (gK sh70) <| zE (oFc nS) <| zE (gH kS) <| zE (oFc nS) <| zE (gH kS) <| zE (kG (j_add u.v (vC hu.1 (by decide)) v.v (vC hv.1 (by decide)))) <| zT (qF kS) <| zZ) ?_
 refine jH ⟨_, (qA (cs := (bx (jG (kF (qX u.v v.v))))) (d := (jG (kF (qX u.v v.v)))) rfl rfl kS rfl rfl .nil), ?_⟩
 rfl
theorem j_gAdd (wp : jV) (i : Nat) (n : Nat) (u : JV) (hu : mG 1048576 n u) (v : JV) (hv : mG 1048576 n v) (hi : i < n) : jW Tryz.prog 186 [(wp), (.val (.int .i64 (((i : Nat) : Int)))), (.cptr 1000000 (jV.cells (.val (.func (.func 192) #[] #[]))) 0), (.cptr 1000000 (jV.cells (jC (jP u))) 0), (.cptr 1000000 (jV.cells (jC (jP v))) 0)] (jG (kF (qX (u.g.getD i z2) (v.g.getD i z2)))) := by
 have hul := hu.2.2
 have hvl := hv.2.2
 refine jM Tryz.func186 rfl cb186 rfl ?_
 show qJ _ _ _ _ ⟨[(0, (.d (wp))), (1, (jN i)), (2, (.d (.cptr 1000000 (jV.cells (.val (.func (.func 192) #[] #[]))) 0))), (3, (.d (.cptr 1000000 (jV.cells (jC (jP u))) 0))), (4, (.d (.cptr 1000000 (jV.cells (jC (jP v))) 0)))], []⟩
 refine jB <| kx [(7, (.ref 0 0))] [(0, some (bx (jG (kD.mk (jJ.mk (jE.mk false []) (jE.mk false [])) (jJ.mk (jE.mk false []) (jE.mk false []))))))] (zN (qS 0 uI uP) <| zZ) ?_
 refine jB <| kd [] [(0, some (bx (jG (kF (qX (u.g.getD i z2) (v.g.getD i z2))))))] mo (wE (gK sh70) <| wE (oFc xH) <| wE (gK mU) <| wM <| wE (oXm yR kF i z2) <| wE (gH kS) <| wE (oFc xH) <| wE (gK mU) <| wM <| wE (oXm yR kF i z2) <| wE (gH kS) <| wE (kG (j_add (u.g.getD i z2) (vC (xP hu.2.1 (by decide) i) (by decide)) (v.g.getD i z2) (vC (xP hv.2.1 (by decide) i) (by decide)))) <| wT (qF kS) <| wZ) ?_
 refine jH ⟨_, (qA (cs := (bx (jG (kF (qX (u.g.getD i z2) (v.g.getD i z2)))))) (d := (jG (kF (qX (u.g.getD i z2) (v.g.getD i z2))))) rfl rfl kS rfl rfl .nil), ?_⟩
 rfl
theorem j_vSub (n : Nat) (u : JV) (hu : mG 1048576 n u) (v : JV) (hv : mG 1048576 n v) : jW Tryz.prog 185 [(.cptr 1000000 (jV.cells (.val (.func (.func 193) #[] #[]))) 0), (.cptr 1000000 (jV.cells (jC (jP u))) 0), (.cptr 1000000 (jV.cells (jC (jP v))) 0)] (jG (kF (kW u.v v.v))) := by
 refine jM Tryz.func185 rfl cb185 rfl ?_
 show qJ _ _ _ _ ⟨[(0, (.d (.cptr 1000000 (jV.cells (.val (.func (.func 193) #[] #[]))) 0))), (1, (.d (.cptr 1000000 (jV.cells (jC (jP u))) 0))), (2, (.d (.cptr 1000000 (jV.cells (jC (jP v))) 0)))], []⟩
 refine jB <| kx [(3, (.ref 0 0))] [(0, some (bx (jG (kD.mk (jJ.mk (jE.mk false []) (jE.mk false [])) (jJ.mk (jE.mk false []) (jE.mk false []))))))] (zN (qS 0 uI uP) <| zZ) ?_
 refine jB <| kx [] [(0, some (bx (jG (kF (kW u.v v.v)))))] (zE (gK sh70) <| zE (oFc nS) <| zE (gH kS) <| zE (oFc nS) <| zE (gH kS) <| zE (kG (j_sub u.v (vC hu.1 (by decide)) v.v (vC hv.1 (by decide)))) <| zT (qF kS) <| zZ) ?_
 refine jH ⟨_, (qA (cs := (bx (jG (kF (kW u.v v.v))))) (d := (jG (kF (kW u.v v.v)))) rfl rfl kS rfl rfl .nil), ?_⟩
 rfl
theorem j_gSub (wp : jV) (i : Nat) (n : Nat) (u : JV) (hu : mG 1048576 n u) (v : JV) (hv : mG 1048576 n v) (hi : i < n) : jW Tryz.prog 186 [(wp), (.val (.int .i64 (((i : Nat) : Int)))), (.cptr 1000000 (jV.cells (.val (.func (.func 193) #[] #[]))) 0), (.cptr 1000000 (jV.cells (jC (jP u))) 0), (.cptr 1000000 (jV.cells (jC (jP v))) 0)] (jG (kF (kW (u.g.getD i z2) (v.g.getD i z2)))) := by
 have hul := hu.2.2
 have hvl := hv.2.2
 refine jM Tryz.func186 rfl cb186 rfl ?_
 show qJ _ _ _ _ ⟨[(0, (.d (wp))), (1, (jN i)), (2, (.d (.cptr 1000000 (jV.cells (.val (.func (.func 193) #[] #[]))) 0))), (3, (.d (.cptr 1000000 (jV.cells (jC (jP u))) 0))), (4, (.d (.cptr 1000000 (jV.cells (jC (jP v))) 0)))], []⟩
 refine jB <| kx [(7, (.ref 0 0))] [(0, some (bx (jG (kD.mk (jJ.mk (jE.mk false []) (jE.mk false [])) (jJ.mk (jE.mk false []) (jE.mk false []))))))] (zN (qS 0 uI uP) <| zZ) ?_
 refine jB <| kd [] [(0, some (bx (jG (kF (kW (u.g.getD i z2) (v.g.getD i z2))))))] mo (wE (gK sh70) <| wE (oFc xH) <| wE (gK mU) <| wM <| wE (oXm yR kF i z2) <| wE (gH kS) <| wE (oFc xH) <| wE (gK mU) <| wM <| wE (oXm yR kF i z2) <| wE (gH kS) <| wE (kG (j_sub (u.g.getD i z2) (vC (xP hu.2.1 (by decide) i) (by decide)) (v.g.getD i z2) (vC (xP hv.2.1 (by decide) i) (by decide)))) <| wT (qF kS) <| wZ) ?_
 refine jH ⟨_, (qA (cs := (bx (jG (kF (kW (u.g.getD i z2) (v.g.getD i z2)))))) (d := (jG (kF (kW (u.g.getD i z2) (v.g.getD i z2))))) rfl rfl kS rfl rfl .nil), ?_⟩
 rfl
theorem j_vNeg (n : Nat) (u : JV) (hu : mG 1048576 n u) (v : JV) (hv : mG 1048576 n v) : jW Tryz.prog 185 [(.cptr 1000000 (jV.cells (.clo 194 [(.cptr 1000000 (jV.cells (jG (kF (gw 0)))) 0)])) 0), (.cptr 1000000 (jV.cells (jC (jP u))) 0), (.cptr 1000000 (jV.cells (jC (jP v))) 0)] (jG (kF (kW (gw 0) u.v))) := by
 refine jM Tryz.func185 rfl cb185 rfl ?_
 show qJ _ _ _ _ ⟨[(0, (.d (.cptr 1000000 (jV.cells (.clo 194 [(.cptr 1000000 (jV.cells (jG (kF (gw 0)))) 0)])) 0))), (1, (.d (.cptr 1000000 (jV.cells (jC (jP u))) 0))), (2, (.d (.cptr 1000000 (jV.cells (jC (jP v))) 0)))], []⟩
 refine jB <| kx [(3, (.ref 0 0))] [(0, some (bx (jG (kD.mk (jJ.mk (jE.mk false []) (jE.mk false [])) (jJ.mk (jE.mk false []) (jE.mk false []))))))] (zN (qS 0 uI uP) <| zZ) ?_
 refine jB <| kx [] [(0, some (bx (jG (kF (kW (gw 0) u.v)))))] (zE (gK sh70) <| zE (oFc nS) <| zE (gH kS) <| zE (oFc nS) <| zE (gH kS) <| zE (oCd (ds := [(jG (kF u.v)), (jG (kF v.v))]) (caps := [(.cptr 1000000 (jV.cells (jG (kF (gw 0)))) 0)]) (j_negop u.v (vC hu.1 (by decide)) v.v (vC hv.1 (by decide)) (gw 0) (gl_w (z := 0) (by omega) (by omega)))) <| zT (qF kS) <| zZ) ?_
 refine jH ⟨_, (qA (cs := (bx (jG (kF (kW (gw 0) u.v))))) (d := (jG (kF (kW (gw 0) u.v)))) rfl rfl kS rfl rfl .nil), ?_⟩
 rfl
theorem j_gNeg (wp : jV) (i : Nat) (n : Nat) (u : JV) (hu : mG 1048576 n u) (v : JV) (hv : mG 1048576 n v) (hi : i < n) : jW Tryz.prog 186 [(wp), (.val (.int .i64 (((i : Nat) : Int)))), (.cptr 1000000 (jV.cells (.clo 194 [(.cptr 1000000 (jV.cells (jG (kF (gw 0)))) 0)])) 0), (.cptr 1000000 (jV.cells (jC (jP u))) 0), (.cptr 1000000 (jV.cells (jC (jP v))) 0)] (jG (kF (kW (gw 0) (u.g.getD i z2)))) := by
 have hul := hu.2.2
 have hvl := hv.2.2
 refine jM Tryz.func186 rfl cb186 rfl ?_
 show qJ _ _ _ _ ⟨[(0, (.d (wp))), (1, (jN i)), (2, (.d (.cptr 1000000 (jV.cells (.clo 194 [(.cptr 1000000 (jV.cells (jG (kF (gw 0)))) 0)])) 0))), (3, (.d (.cptr 1000000 (jV.cells (jC (jP u))) 0))), (4, (.d (.cptr 1000000 (jV.cells (jC (jP v))) 0)))], []⟩
 refine jB <| kx [(7, (.ref 0 0))] [(0, some (bx (jG (kD.mk (jJ.mk (jE.mk false []) (jE.mk false [])) (jJ.mk (jE.mk false []) (jE.mk false []))))))] (zN (qS 0 uI uP) <| zZ) ?_
 refine jB <| kd [] [(0, some (bx (jG (kF (kW (gw 0) (u.g.getD i z2))))))] mo (wE (gK sh70) <| wE (oFc xH) <| wE (gK mU) <| wM <| wE (oXm yR kF i z2) <| wE (gH kS) <| wE (oFc xH) <| wE (gK mU) <| wM <| wE (oXm yR kF i z2) <| wE (gH kS) <| wE (oCd (ds := [(jG (kF (u.g.getD i z2))), (jG (kF (v.g.getD i z2)))]) (caps := [(.cptr 1000000 (jV.cells (jG (kF (gw 0)))) 0)]) (j_negop (u.g.getD i z2) (vC (xP hu.2.1 (by decide) i) (by decide)) (v.g.getD i z2) (vC (xP hv.2.1 (by decide) i) (by decide)) (gw 0) (gl_w (z := 0) (by omega) (by omega)))) <| wT (qF kS) <| wZ) ?_
 refine jH ⟨_, (qA (cs := (bx (jG (kF (kW (gw 0) (u.g.getD i z2)))))) (d := (jG (kF (kW (gw 0) (u.g.getD i z2))))) rfl rfl kS rfl rfl .nil), ?_⟩
 rfl
theorem j_vC (p : Rat) (hp : QL p 1048576) : jW Tryz.prog 188 [(.cptr 1000000 (jV.cells (qP (vB.mk 0 0 0 (jS p)))) 0)] (jG (kF (gX p))) := by
 refine jM Tryz.func188 rfl cb188 rfl ?_
 show qJ _ _ _ _ ⟨[(0, (.d (.cptr 1000000 (jV.cells (qP (vB.mk 0 0 0 (jS p)))) 0)))], []⟩
 refine jB <| kx [(1, (.ref 0 0))] [(0, some (bx (jG (kD.mk (jJ.mk (jE.mk false []) (jE.mk false [])) (jJ.mk (jE.mk false []) (jE.mk false []))))))] (zN (qS 0 uI uP) <| zZ) ?_
 refine jB <| kx [] [(0, some (bx (jG (kD.mk (jS p) (jS p)))))] (zE (oFc fo83_3) <| zE (gH jO) <| zE (oFc fo83_3) <| zE (gH jO) <| zE (fM pl61 uI uP) <| zT (qF kS) <| zZ) ?_
 refine jH ⟨_, (qA (cs := (bx (jG (kD.mk (jS p) (jS p))))) (d := (jG (kD.mk (jS p) (jS p)))) rfl rfl kS rfl rfl .nil), ?_⟩
 rfl
theorem j_gC (wp : jV) (i : Nat) (zz : R2) (hzz : GL 3 zz) : jW Tryz.prog 189 [(wp), (.val (.int .i64 (((i : Nat) : Int)))), (.cptr 1000000 (jV.cells (jG (kF zz))) 0)] (jG (kF zz)) := by
 refine jM Tryz.func189 rfl cb189 rfl ?_
 show qJ _ _ _ _ ⟨[(0, (.d (wp))), (1, (jN i)), (2, (.d (.cptr 1000000 (jV.cells (jG (kF zz))) 0)))], []⟩
 refine jB <| kx [(5, (.ref 0 0))] [(0, some (bx (jG (kD.mk (jJ.mk (jE.mk false []) (jE.mk false [])) (jJ.mk (jE.mk false []) (jE.mk false []))))))] (zN (qS 0 uI uP) <| zZ) ?_
 refine jB <| kx [] [(0, some (bx (jG (kF zz))))] (zE (gH kS) <| zT (qF kS) <| zZ) ?_
 refine jH ⟨_, (qA (cs := (bx (jG (kF zz)))) (d := (jG (kF zz))) rfl rfl kS rfl rfl .nil), ?_⟩
 rfl
theorem j_vV (bv : List R2) (hbx : ∀ x ∈ bv, GL 1048576 x) (a : Nat) (ha : a < bv.length) (hbl : bv.length ≤ 1000000) : jW Tryz.prog 190 [(.cptr 1000000 (jV.cells (.sl 61 8 (List.map jG (List.map kF bv)))) 0), (.cptr 1000000 (jV.cells (qP (vB.mk 1 ((a : Nat) : Int) 0 (jJ.mk (jE.mk false []) (jE.mk false []))))) 0)] (jG (kF (bv.getD a z2))) := by
 refine jM Tryz.func190 rfl cb190 rfl ?_
 show qJ _ _ _ _ ⟨[(0, (.d (.cptr 1000000 (jV.cells (.sl 61 8 (List.map jG (List.map kF bv)))) 0))), (1, (.d (.cptr 1000000 (jV.cells (qP (vB.mk 1 ((a : Nat) : Int) 0 (jJ.mk (jE.mk false []) (jE.mk false []))))) 0)))], []⟩
 refine jB <| kx [(2, (.ref 0 0))] [(0, some (bx (jG (kD.mk (jJ.mk (jE.mk false []) (jE.mk false [])) (jJ.mk (jE.mk false []) (jE.mk false []))))))] (zN (qS 0 uI uP) <| zZ) ?_
 refine jB <| kx [] [(0, some (bx (jG (kF (bv.getD a z2)))))] (zE (gK mU) <| zE (oFc hH) <| zE (gK nF) <| zE (oXm yR kF a z2 (hj := by first | omega | rfl | (dsimp only; omega)) (h1 := by first | omega | rfl | (dsimp only; omega))) <| zE (gH kS) <| zT (qF kS) <| zZ) ?_
 refine jH ⟨_, (qA (cs := (bx (jG (kF (bv.getD a z2))))) (d := (jG (kF (bv.getD a z2)))) rfl rfl kS rfl rfl .nil), ?_⟩
 rfl
theorem j_gV (wp : jV) (i : Nat) (a : Nat) (zz : R2) (hzz : GL 3 zz) : jW Tryz.prog 191 [(wp), (.val (.int .i64 (((i : Nat) : Int)))), (.cptr 1000000 (jV.cells (qP (vB.mk 1 ((a : Nat) : Int) 0 (jJ.mk (jE.mk false []) (jE.mk false []))))) 0), (.cptr 1000000 (jV.cells (jG (kF zz))) 0)] (jG (kF (if ((i : Nat) : Int) = ((a : Nat) : Int) then gw 1 else zz))) := by
 refine jM Tryz.func191 rfl cb191 rfl ?_
 show qJ _ _ _ _ ⟨[(0, (.d (wp))), (1, (jN i)), (2, (.d (.cptr 1000000 (jV.cells (qP (vB.mk 1 ((a : Nat) : Int) 0 (jJ.mk (jE.mk false []) (jE.mk false []))))) 0))), (3, (.d (.cptr 1000000 (jV.cells (jG (kF zz))) 0)))], []⟩
 refine jB <| kx [(6, (.ref 0 0))] [(0, some (bx (jG (kD.mk (jJ.mk (jE.mk false []) (jE.mk false [])) (jJ.mk (jE.mk false []) (jE.mk false []))))))] (zN (qS 0 uI uP) <| zZ) ?_
 refine jB <| jB <| kx [(10, (vb (((i : Nat) : Int) == ((a : Nat) : Int))))] [] (zM <| zE (oFc hH) <| zE (gK nF) <| zE gJ <| zZ) ?_
 refine jK (b := (((i : Nat) : Int) == ((a : Nat) : Int))) rfl (fun h1 => ?_) (fun h1 => ?_)
 ·replace h1 := eq_of_beq h1
  refine jB <| kx [] [(0, some (bx (jG (kF (gw 1)))))] (zE (kG (dA 1 (by omega) (by omega))) <| zT (qF kS) <| zZ) ?_
  refine jH ⟨_, (qA (cs := (bx (jG (kF (gw 1))))) (d := (jG (kF (gw 1)))) rfl rfl kS rfl rfl .nil), ?_⟩
  rw [if_pos h1]; rfl
 ·replace h1 := ne_of_beq_false h1
  refine jF <| jB <| kx [] [(0, some (bx (jG (kF zz))))] (zE (gH kS) <| zT (qF kS) <| zZ) ?_
  refine jH ⟨_, (qA (cs := (bx (jG (kF zz)))) (d := (jG (kF zz))) rfl rfl kS rfl rfl .nil), ?_⟩
  rw [if_neg h1]; rfl
theorem j_vM (n : Nat) (u : JV) (hu : mG 1048576 n u) (v : JV) (hv : mG 1048576 n v) : jW Tryz.prog 195 [(.cptr 1000000 (jV.cells (jC (jP u))) 0), (.cptr 1000000 (jV.cells (jC (jP v))) 0)] (jG (kF (kZ u.v v.v))) := by
 refine jM Tryz.func195 rfl cb195 rfl ?_
 show qJ _ _ _ _ ⟨[(0, (.d (.cptr 1000000 (jV.cells (jC (jP u))) 0))), (1, (.d (.cptr 1000000 (jV.cells (jC (jP v))) 0)))], []⟩
 refine jB <| kx [(2, (.ref 0 0))] [(0, some (bx (jG (kD.mk (jJ.mk (jE.mk false []) (jE.mk false [])) (jJ.mk (jE.mk false []) (jE.mk false []))))))] (zN (qS 0 uI uP) <| zZ) ?_
 refine jB <| kx [] [(0, some (bx (jG (kF (kZ u.v v.v)))))] (zE (oFc nS) <| zE (gH kS) <| zE (oFc nS) <| zE (gH kS) <| zE (kG (j_mul u.v (vC hu.1 (by decide)) v.v (vC hv.1 (by decide)))) <| zT (qF kS) <| zZ) ?_
 refine jH ⟨_, (qA (cs := (bx (jG (kF (kZ u.v v.v))))) (d := (jG (kF (kZ u.v v.v)))) rfl rfl kS rfl rfl .nil), ?_⟩
 rfl
theorem j_gM (wp : jV) (i : Nat) (n : Nat) (u : JV) (hu : mG 1048576 n u) (v : JV) (hv : mG 1048576 n v) (hi : i < n) : jW Tryz.prog 197 [(wp), (.val (.int .i64 (((i : Nat) : Int)))), (.cptr 1000000 (jV.cells (jC (jP u))) 0), (.cptr 1000000 (jV.cells (jC (jP v))) 0)] (jG (kF (qX (kZ u.v (v.g.getD i z2)) (kZ v.v (u.g.getD i z2))))) := by
 have hul := hu.2.2
 have hvl := hv.2.2
 refine jM Tryz.func197 rfl cb197 rfl ?_
 show qJ _ _ _ _ ⟨[(0, (.d (wp))), (1, (jN i)), (2, (.d (.cptr 1000000 (jV.cells (jC (jP u))) 0))), (3, (.d (.cptr 1000000 (jV.cells (jC (jP v))) 0)))], []⟩
 refine jB <| kx [(6, (.ref 0 0))] [(0, some (bx (jG (kD.mk (jJ.mk (jE.mk false []) (jE.mk false [])) (jJ.mk (jE.mk false []) (jE.mk false []))))))] (zN (qS 0 uI uP) <| zZ) ?_
 refine jB <| kd [] [(0, some (bx (jG (kF (qX (kZ u.v (v.g.getD i z2)) (kZ v.v (u.g.getD i z2)))))))] mo (wE (oFc nS) <| wE (gH kS) <| wE (oFc xH) <| wE (gK mU) <| wM <| wE (oXm yR kF i z2) <| wE (gH kS) <| wE (kG (j_mul u.v (vC hu.1 (by decide)) (v.g.getD i z2) (vC (xP hv.2.1 (by decide) i) (by decide)))) <| wE (oFc nS) <| wE (gH kS) <| wE (oFc xH) <| wE (gK mU) <| wM <| wE (oXm yR kF i z2) <| wE (gH kS) <| wE (kG (j_mul v.v (vC hv.1 (by decide)) (u.g.getD i z2) (vC (xP hu.2.1 (by decide) i) (by decide)))) <| wE (kG (j_add (kZ u.v (v.g.getD i z2)) (vC (dZ (k := 2097152) hu.1 (xP hv.2.1 (by decide) i) (by decide)) (by decide)) (kZ v.v (u.g.getD i z2)) (vC (dZ (k := 2097152) hv.1 (xP hu.2.1 (by decide) i) (by decide)) (by decide)))) <| wT (qF kS) <| wZ) ?_
 refine jH ⟨_, (qA (cs := (bx (jG (kF (qX (kZ u.v (v.g.getD i z2)) (kZ v.v (u.g.getD i z2))))))) (d := (jG (kF (qX (kZ u.v (v.g.getD i z2)) (kZ v.v (u.g.getD i z2)))))) rfl rfl kS rfl rfl .nil), ?_⟩
 rfl
theorem j_vQ (n : Nat) (u : JV) (hu : mG 1048576 n u) : jW Tryz.prog 199 [(.cptr 1000000 (jV.cells (jC (jP u))) 0)] (jG (kF (gsq u.v))) := by
 refine jM Tryz.func199 rfl cb199 rfl ?_
 show qJ _ _ _ _ ⟨[(0, (.d (.cptr 1000000 (jV.cells (jC (jP u))) 0)))], []⟩
 refine jB <| kx [(1, (.ref 0 0))] [(0, some (bx (jG (kD.mk (jJ.mk (jE.mk false []) (jE.mk false [])) (jJ.mk (jE.mk false []) (jE.mk false []))))))] (zN (qS 0 uI uP) <| zZ) ?_
 refine jB <| kx [] [(0, some (bx (jG (kF (gsq u.v)))))] (zE (oFc nS) <| zE (gH kS) <| zE (kG (j_sq u.v (vC hu.1 (by decide)))) <| zT (qF kS) <| zZ) ?_
 refine jH ⟨_, (qA (cs := (bx (jG (kF (gsq u.v))))) (d := (jG (kF (gsq u.v)))) rfl rfl kS rfl rfl .nil), ?_⟩
 rfl
theorem j_gQ (wp : jV) (i : Nat) (tt : R2) (htt : GL 3 tt) (n : Nat) (u : JV) (hu : mG 1048576 n u) (hi : i < n) : jW Tryz.prog 201 [(wp), (.val (.int .i64 (((i : Nat) : Int)))), (.cptr 1000000 (jV.cells (jG (kF tt))) 0), (.cptr 1000000 (jV.cells (jC (jP u))) 0)] (jG (kF (kZ tt (kZ u.v (u.g.getD i z2))))) := by
 have hul := hu.2.2
 refine jM Tryz.func201 rfl cb201 rfl ?_
 show qJ _ _ _ _ ⟨[(0, (.d (wp))), (1, (jN i)), (2, (.d (.cptr 1000000 (jV.cells (jG (kF tt))) 0))), (3, (.d (.cptr 1000000 (jV.cells (jC (jP u))) 0)))], []⟩
 refine jB <| kx [(6, (.ref 0 0))] [(0, some (bx (jG (kD.mk (jJ.mk (jE.mk false []) (jE.mk false [])) (jJ.mk (jE.mk false []) (jE.mk false []))))))] (zN (qS 0 uI uP) <| zZ) ?_
 refine jB <| kd [] [(0, some (bx (jG (kF (kZ tt (kZ u.v (u.g.getD i z2)))))))] mo (wE (gH kS) <| wE (oFc nS) <| wE (gH kS) <| wE (oFc xH) <| wE (gK mU) <| wM <| wE (oXm yR kF i z2) <| wE (gH kS) <| wE (kG (j_mul u.v (vC hu.1 (by decide)) (u.g.getD i z2) (vC (xP hu.2.1 (by decide) i) (by decide)))) <| wE (kG (j_mul tt (vC htt (by decide)) (kZ u.v (u.g.getD i z2)) (vC (dZ (k := 2097152) hu.1 (xP hu.2.1 (by decide) i) (by decide)) (by decide)))) <| wT (qF kS) <| wZ) ?_
 refine jH ⟨_, (qA (cs := (bx (jG (kF (kZ tt (kZ u.v (u.g.getD i z2))))))) (d := (jG (kF (kZ tt (kZ u.v (u.g.getD i z2)))))) rfl rfl kS rfl rfl .nil), ?_⟩
 rfl
end Go.Proofs.YtnajallgoaiahaaGreatDoor
