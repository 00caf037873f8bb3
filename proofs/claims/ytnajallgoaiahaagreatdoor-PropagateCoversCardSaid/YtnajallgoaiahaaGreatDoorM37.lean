/- Part 37 of a proof: rules, plain facts, and functions walked. -/
import Derived.Test.YtnajallgoaiahaaGreatDoorM36
namespace Go.Proofs.YtnajallgoaiahaaGreatDoor
open Go.Fid
set_option maxRecDepth 4000
set_option linter.unusedVariables false
set_option linter.unusedSimpArgs false
theorem cb11 : callB Tryz.prog 11 = true := by kernel_rfl
theorem cb65 : callB Tryz.prog 65 = true := by kernel_rfl
theorem pl83 : dN Tryz.prog 83 = some [(0, 1), (1, 1), (2, 1), (3, 4)] := by kernel_rfl
theorem p_whole (zs : List Int) (hz : ∀ z ∈ zs, -9223372036854775808 ≤ z ∧ z ≤ 9223372036854775807) (hzl : zs.length ≤ 1000000) : jW Tryz.prog 65 [(.sl 3 1 (List.map uQ zs))] (.sl 45 4 (List.map jL (List.map jS (zQ zs)))) := by
 refine jM Tryz.func65 rfl cb65 rfl ?_
 show qJ _ _ _ _ ⟨[(0, (vl 3 1 uQ zs))], []⟩
 refine jB <| kx [] [] (zE (aK 45 4) <| zZ) ?_
 refine jB <| kx [(3, (.own 0 45 4 0))] [(0, some (qD jL []))] (zN (oBo 0 uL qO qR) <| zM <| zZ) ?_
 refine jB <| jB <| kx [(7, (vl 3 1 uQ zs)), (8, (jN zs.length)), (9, (jN 0))] [] (zM <| zE (zB mL) <| zM <| zZ) ?_
 refine jI <| kU (α := Nat × List jJ) (fun (i, o) => ⟨[(3, (.own 0 45 4 o.length)), (7, (vl 3 1 uQ zs)), (8, (jN zs.length)), (9, (jN i))], [(0, some (qD jL o))]⟩) (fun (i, o) => i ≤ zs.length ∧ o = (zs.take i).map (fun z : Int => jS (z : Rat))) (fun (i, o) => zs.length - i) (0, []) wk ⟨Nat.zero_le _, by simp⟩ ?_
 rintro ⟨i, o⟩ ⟨hi, ho⟩
 have hol : o.length = i := by rw [ho, List.length_map, List.length_take]; omega
 refine jB <| kx [(10, (vb (decide (((i : Nat) : Int) < ((zs.length : Nat) : Int)))))] [] (zE vW <| zZ) ?_
 refine jB <| jK rfl (fun h1 => ?_) (fun h1 => ?_)
 ·replace h1 := of_decide_eq_true h1
  have hzi := zs_at hz (show i < zs.length by omega)
  refine jF <| jB <| jI <| jB <| kx [(5, (vi (zs.getD i 0)))] [] (zE (hZ mL i (0 : Int)) <| zE (gK nF) <| zM <| zZ) ?_
  refine kf [(3, (.own 0 45 4 ((o ++ [(jS ((zs.getD i 0 : Int) : Rat))]).length)))] [(0, some (qD jL (o ++ [(jS ((zs.getD i 0 : Int) : Rat))])))] (zM <| zM <| zE (kG (dS (zs.getD i 0) (by omega) (by omega))) <| zE (nU uL qO qR) <| zAS jL o [(jS ((zs.getD i 0 : Int) : Rat))] rfl uL qO by45 <| zM <| zF) ?_
  refine kx [(9, (jN (i + 1)))] [] (zE (vJ (i + 1)) <| zM <| zZ) ?_
  exact ⟨(i + 1, o ++ [jS ((zs.getD i 0 : Int) : Rat)]), wk, ⟨by omega, by rw [ho]; exact fX (f := fun z : Int => jS (z : Rat)) (by omega)⟩, (by first | omega | (dsimp only; omega))⟩
 ·replace h1 := of_decide_eq_false h1
  refine kP <| jB <| kx [(2, (.own 0 45 4 o.length))] [] (zM <| zM <| zZ) ?_
  refine kA (xF (t := 2) (k := 0) (es := List.map jL o) rfl rfl (xK _ _ (fun _ => rfl)) (qZ _ _ rfl) (yF jL o (fun _ => rfl) rfl)) ?_
  refine jH ⟨_, (.tmp (d := (.sl 45 4 (List.map jL o))) rfl .nil), ?_⟩
  rw [ho, show i = zs.length by omega, List.take_length, show List.map (fun z : Int => jS (z : Rat)) zs = List.map jS (zQ zs) from (by unfold zQ; rw [List.map_map]; rfl)]; rfl
theorem p_known  : jW Tryz.prog 11 [] (.val (.bool (true))) := by
 let y4 := (jJ.mk (jE.mk false []) (jE.mk false []))
 let y3 := (kD.mk (jS ((1 : Int) : Rat)) (jS ((1 : Int) : Rat)))
 let y2 := (kD.mk (jS ((9 : Int) : Rat)) (jS ((9 : Int) : Rat)))
 let y1 := [(vB.mk ((1 : Nat) : Int) 0 0 y4), (vB.mk ((1 : Nat) : Int) ((1 : Nat) : Int) 0 y4), (vB.mk ((4 : Nat) : Int) 0 ((1 : Nat) : Int) y4)]
 refine jM Tryz.func11 rfl cb11 rfl ?_
 show qJ _ _ _ _ ⟨[], []⟩
 refine jB <| kx [] [] (zM <| zZ) ?_
 refine jB <| kx [(1, (vl 83 7 qP y1))] [] (zE (fM pl83 ze83 zo83) <| zE (fM pl83 ze83 zo83) <| zE (fM pl83 ze83 zo83) <| zE (nU el23 ze83 zo83) <| zM <| zZ) ?_
 refine jB <| kx [(2, (.ref 0 0)), (3, (jN 0))] [(0, some (bx (jL (jS ((25 : Int) : Rat)))))] (zE (oQd (.sl 83 7 (List.map qP y1)) (.sl 83 7 (List.map qP kT)) (oV (vl 83 7 qP y1) (uA (by kernel_rfl))) (by exact rfl)) <| zE (nU mL ze3 zo3) <| zE (oQd (.sl 45 4 (List.map jL (List.map jS (zQ [((2 : Nat) : Int), ((3 : Nat) : Int)])))) (.sl 45 4 (List.map jL (List.map jS kX))) (kG (p_whole [((2 : Nat) : Int), ((3 : Nat) : Int)] (by decide) (by decide))) (by exact rfl)) <| zE (nU mL ze3 zo3) <| zE (kG (p_whole [((1 : Nat) : Int), ((0 : Nat) : Int)] (by decide) (by decide))) <| zE (nU mL ze3 zo3) <| zE (kG (p_whole [((0 : Nat) : Int), ((4 : Nat) : Int)] (by decide) (by decide))) <| zE (oQd (.sl 24 1 (List.map jY [(List.map jS (zQ [((1 : Nat) : Int), ((0 : Nat) : Int)])), (List.map jS (zQ [((0 : Nat) : Int), ((4 : Nat) : Int)]))])) (.sl 24 1 (List.map jY kQ)) (nU dR ze24 zo24) (by exact rfl)) <| zE (kG (p_var kT kT_ok kX kX_ql kQ kQ_ok kT_run kQ_rect kQ_fit rfl)) <| zM <| zE (oQd (jL (jS (covR kQ (gE kX kT) (gE kX kT)))) (jL (jS ((25 : Int) : Rat))) vX (by exact (by rw [kVar]; rfl))) <| zE vX <| zN (qS 0 qO qR) <| zT (qF jO) <| zM <| zZ) ?_
 refine jB <| kx [(4, (.ref 1 0)), (5, (.ref 2 0)), (6, (jN 0))] [(1, some (bx (jG y2))), (2, some (bx (jG y3)))] (zE (nU mL ze3 zo3) <| zE (kG (p_whole [((5 : Nat) : Int), ((4 : Nat) : Int)] (by decide) (by decide))) <| zE (nU mL ze3 zo3) <| zE (kG (p_whole [((4 : Nat) : Int), ((5 : Nat) : Int)] (by decide) (by decide))) <| zE (oQd (.sl 24 1 (List.map jY [(List.map jS (zQ [((5 : Nat) : Int), ((4 : Nat) : Int)])), (List.map jS (zQ [((4 : Nat) : Int), ((5 : Nat) : Int)]))])) (.sl 24 1 (List.map jY kE)) (nU dR ze24 zo24) (by exact rfl)) <| zE (kG (p_ellO kE kE_ok 0 1 3 (by omega) kE_chk kE_fit (by decide) (by decide) (by omega))) <| zM <| zE (oQd (jG (kD.mk (jS (((Rat.divInt 1 2) * ((kH ((kE.getD 0 []).getD 0 y4)) + (kH ((kE.getD 1 []).getD 1 y4)))) + (Rat.divInt (qE (yV (((((Rat.divInt 1 2) * ((kH ((kE.getD 0 []).getD 0 y4)) - (kH ((kE.getD 1 []).getD 1 y4)))) * ((Rat.divInt 1 2) * ((kH ((kE.getD 0 []).getD 0 y4)) - (kH ((kE.getD 1 []).getD 1 y4))))) + ((kH ((kE.getD 0 []).getD 1 y4)) * (kH ((kE.getD 0 []).getD 1 y4)))) * (((((2 ^ 3 : Nat) : Int) : Int) : Rat) * ((((2 ^ 3 : Nat) : Int) : Int) : Rat))))) ((2 ^ 3 : Nat) : Int)))) (jS (((Rat.divInt 1 2) * ((kH ((kE.getD 0 []).getD 0 y4)) + (kH ((kE.getD 1 []).getD 1 y4)))) + (Rat.divInt (upI (((((Rat.divInt 1 2) * ((kH ((kE.getD 0 []).getD 0 y4)) - (kH ((kE.getD 1 []).getD 1 y4)))) * ((Rat.divInt 1 2) * ((kH ((kE.getD 0 []).getD 0 y4)) - (kH ((kE.getD 1 []).getD 1 y4))))) + ((kH ((kE.getD 0 []).getD 1 y4)) * (kH ((kE.getD 0 []).getD 1 y4)))) * (((((2 ^ 3 : Nat) : Int) : Int) : Rat) * ((((2 ^ 3 : Nat) : Int) : Int) : Rat)))) ((2 ^ 3 : Nat) : Int)))))) (jG y2) vX (by exact (by rw [kEa, kEb, kEc]; exact congrArg jG (rng2 (by decide +kernel) (by decide +kernel))))) <| zE (oQd (jG (kD.mk (jS (((Rat.divInt 1 2) * ((kH ((kE.getD 0 []).getD 0 y4)) + (kH ((kE.getD 1 []).getD 1 y4)))) - (Rat.divInt (upI (((((Rat.divInt 1 2) * ((kH ((kE.getD 0 []).getD 0 y4)) - (kH ((kE.getD 1 []).getD 1 y4)))) * ((Rat.divInt 1 2) * ((kH ((kE.getD 0 []).getD 0 y4)) - (kH ((kE.getD 1 []).getD 1 y4))))) + ((kH ((kE.getD 0 []).getD 1 y4)) * (kH ((kE.getD 0 []).getD 1 y4)))) * (((((2 ^ 3 : Nat) : Int) : Int) : Rat) * ((((2 ^ 3 : Nat) : Int) : Int) : Rat)))) ((2 ^ 3 : Nat) : Int)))) (jS (((Rat.divInt 1 2) * ((kH ((kE.getD 0 []).getD 0 y4)) + (kH ((kE.getD 1 []).getD 1 y4)))) - (Rat.divInt (qE (yV (((((Rat.divInt 1 2) * ((kH ((kE.getD 0 []).getD 0 y4)) - (kH ((kE.getD 1 []).getD 1 y4)))) * ((Rat.divInt 1 2) * ((kH ((kE.getD 0 []).getD 0 y4)) - (kH ((kE.getD 1 []).getD 1 y4))))) + ((kH ((kE.getD 0 []).getD 1 y4)) * (kH ((kE.getD 0 []).getD 1 y4)))) * (((((2 ^ 3 : Nat) : Int) : Int) : Rat) * ((((2 ^ 3 : Nat) : Int) : Int) : Rat))))) ((2 ^ 3 : Nat) : Int)))))) (jG y3) vX (by exact (by rw [kEa, kEb, kEc]; exact congrArg jG (rng2 (by decide +kernel) (by decide +kernel))))) <| zE vX <| zN (qS 1 uI uP) <| zN (qS 2 uI uP) <| zT (qF kS) <| zT (qF kS) <| zM <| zZ) ?_
 refine jB <| kx [(7, (vb true)), (8, (jN 0))] [] (zE (kG (dS 10 (by decide) (by decide))) <| zE (kG (dS 4 (by decide) (by decide))) <| zE (kG (dS 4 (by decide) (by decide))) <| zE (kG (dS 14 (by decide) (by decide))) <| zE (kG (p_cov (jS ((10 : Int) : Rat)) ((10 : Int) : Rat) (jR (kM (yW (z := 10) (yH (by decide)) (by decide))) (by decide)) (jS ((4 : Int) : Rat)) ((4 : Int) : Rat) (jR (kM (yW (z := 4) (yH (by decide)) (by decide))) (by decide)) (jS ((4 : Int) : Rat)) ((4 : Int) : Rat) (jR (kM (yW (z := 4) (yH (by decide)) (by decide))) (by decide)) (jS ((14 : Int) : Rat)) ((14 : Int) : Rat) (jR (kM (yW (z := 14) (yH (by decide)) (by decide))) (by decide)) (by decide +kernel) (by decide +kernel) (by decide +kernel) (by decide +kernel) (by decide +kernel) (by decide +kernel))) <| zM <| zE (oQd (.val (.bool ((decide ((yE ((((14 : Int) : Rat) - ((10 : Int) : Rat)) * (((14 : Int) : Rat) - ((10 : Int) : Rat))) (((4 : Int) : Rat) * ((4 : Int) : Rat))) ≤ 0))))) (.val (.bool (true))) vX (by exact (congrArg (fun b => jV.val (.bool b)) (by decide +kernel)))) <| zE vX <| zM <| zM <| zZ) ?_
 refine jB <| kd [(0, (vb true))] [] mo (wM <| wE (uX true gJ) <| wM <| wM <| wE (uX true gJ) <| wE cR <| wM <| wM <| wE (uX true gJ) <| wE cR <| wM <| wM <| wE cR <| wM <| wR (kK jO) <| wE (kG (dS 25 (by decide) (by decide))) <| wE (uX true (kG (by have h := g_same (jS ((25 : Int) : Rat)) (jS ((25 : Int) : Rat)) ((25 : Int) : Rat) ((25 : Int) : Rat) (jR (kM (yW (nB (by decide) (by decide)) (by decide))) (by decide)) (jR (kM (yW (z := 25) (yH (by decide)) (by decide))) (by decide)); rw [sameR_of] at h; exact h)) (by exact decide_eq_true rfl)) <| wE cR <| wM <| wR (kK kS) <| wE (kG (h_whole 9 9 (by decide) (by decide) (by decide) (by decide))) <| wE (kG (by have h := h_same y2 y2 (nT (⟨uE (jR (kM (yW (nB (by decide) (by decide)) (by decide))) (by decide : 3 ≤ 3)), uE (jR (kM (yW (nB (by decide) (by decide)) (by decide))) (by decide : 3 ≤ 3))⟩) (by decide)) (nT (⟨uE (jR (kM (yW (z := 9) (yH (by decide)) (by decide))) (by decide : 1 ≤ 1)), uE (jR (kM (yW (z := 9) (yH (by decide)) (by decide))) (by decide : 1 ≤ 1))⟩) (by decide)); rw [show sameG y2 y2 = true from by rw [sameG_of]; kernel_rfl] at h; exact h)) <| wE cR <| wM <| wR (kK kS) <| wE (kG (h_whole 1 1 (by decide) (by decide) (by decide) (by decide))) <| wE (kG (by have h := h_same y3 y3 (nT (⟨uE (jR (kM (yW (nB (by decide) (by decide)) (by decide))) (by decide : 3 ≤ 3)), uE (jR (kM (yW (nB (by decide) (by decide)) (by decide))) (by decide : 3 ≤ 3))⟩) (by decide)) (nT (⟨uE (jR (kM (yW (z := 1) (yH (by decide)) (by decide))) (by decide : 1 ≤ 1)), uE (jR (kM (yW (z := 1) (yH (by decide)) (by decide))) (by decide : 1 ≤ 1))⟩) (by decide)); rw [show sameG y3 y3 = true from by rw [sameG_of]; kernel_rfl] at h; exact h)) <| wE cR <| wM <| wZ) ?_
 refine jH ⟨_, (.tmp (d := (.val (.bool (true)))) rfl .nil), ?_⟩
 rfl
end Go.Proofs.YtnajallgoaiahaaGreatDoor
namespace Go.Proofs.YtnajallgoaiahaaGreatDoor
open Go.Fid
set_option maxRecDepth 4000
set_option linter.unusedVariables false
set_option linter.unusedSimpArgs false
theorem dE : arrB Tryz.prog 52 = some (2, 45, 4) := by kernel_rfl
theorem cb5 : callB Tryz.prog 5 = true := by kernel_rfl
theorem w_cvL (x : jJ) (p : Rat) (hx : yT x p 140737488355328) (y : jJ) (s : Rat) (hy : yT y s 140737488355328) (v : A2 jJ) (hv0 : yT v.a0 (kH v.a0) 140737488355328) (hv1 : yT v.a1 (kH v.a1) 140737488355328) (hl : 16 < xE x ∨ 16 < xE y ∨ 16 < xE v.a0 ∨ 16 < xE v.a1) : jW Tryz.prog 5 [(jL x), (jL y), (gP v)] (.val (.bool (true))) := by
 refine jM Tryz.func5 rfl cb5 rfl ?_
 show qJ _ _ _ _ ⟨[(0, (.d (jL x))), (1, (.d (jL y))), (2, (.d (gP v)))], []⟩
 refine jB <| kx [(3, (.ref 0 0)), (4, (.ref 1 0)), (5, (.ref 2 0))] [(0, some (bx (jL x))), (1, some (bx (jL y))), (2, some (bx (gP v)))] (zN (uZ 0) <| zN (uZ 1) <| zN (uZ 2) <| zM <| zZ) ?_
 refine jB <| jB <| kx [(13, (vb false))] [] (zE (kG p_known) <| zE cE <| zZ) ?_
 refine kO ?_
 refine jF <| jB <| jB <| kx [(20, (vl 45 4 jL [x, y, v.a0, v.a1])), (21, (jN 4)), (22, (jN 0))] [] (zR (kK jO) <| zR (kK jO) <| zE (oXr dE 0) <| zR (kK jO) <| zE (oXr dE 1) <| zR (kK jO) <| zE (nU uL qO qR) <| zE (oLn uL 4) <| zM <| zZ) ?_
 refine jI <| mF 5 ?_
 refine cT <| jB <| kx [(23, (vb true))] [] (zE (uX true vW) <| zZ) ?_
 refine jB <| qL ?_
 refine jF <| jB <| jI <| jB <| kx [(8, (.ref 3 0))] [(3, some (bx (jL x)))] (zE (oXs uL 0) <| zE (gH jO) <| zN (qS 3 qO qR) <| zT (qF jO) <| zZ) ?_
 refine jB <| kx [(28, (vb (decide (((16 : Nat) : Int) < (((xE x) : Nat) : Int)))))] [] (zR (kK jO) <| zE (kG (zD x p hx)) <| zE yN <| zZ) ?_
 refine jK rfl (fun h1 => ?_) (fun h1 => ?_)
 ·replace h1 := of_decide_eq_true h1
  refine jB <| kx [(6, (vb true))] [] (zM <| zZ) ?_
  refine jH ⟨_, (.tmp (d := (.val (.bool (true)))) rfl .nil), ?_⟩
  rfl
 ·replace h1 := of_decide_eq_false h1
  refine jF <| kx [(22, (jN 1))] [] (zE (vJ 1 (hr := by decide)) <| zM <| zZ) ?_
  refine uK (qW.refl _) ?_
  refine jB <| kx [(23, (vb true))] [] (zE (uX true vW) <| zZ) ?_
  refine jB <| qL ?_
  refine jF <| jB <| jI <| jB <| kx [(8, (.ref 4 0))] [(4, some (bx (jL y)))] (zE (oXs uL 1) <| zE (gH jO) <| zN (qS 4 qO qR) <| zT (qF jO) <| zZ) ?_
  refine jB <| kx [(28, (vb (decide (((16 : Nat) : Int) < (((xE y) : Nat) : Int)))))] [] (zR (kK jO) <| zE (kG (zD y s hy)) <| zE yN <| zZ) ?_
  refine jK rfl (fun h2 => ?_) (fun h2 => ?_)
  ·replace h2 := of_decide_eq_true h2
   refine jB <| kx [(6, (vb true))] [] (zM <| zZ) ?_
   refine jH ⟨_, (.tmp (d := (.val (.bool (true)))) rfl .nil), ?_⟩
   rfl
  ·replace h2 := of_decide_eq_false h2
   refine jF <| kx [(22, (jN 2))] [] (zE (vJ 2 (hr := by decide)) <| zM <| zZ) ?_
   refine uK (qW.refl _) ?_
   refine jB <| kx [(23, (vb true))] [] (zE (uX true vW) <| zZ) ?_
   refine jB <| qL ?_
   refine jF <| jB <| jI <| jB <| kx [(8, (.ref 5 0))] [(5, some (bx (jL v.a0)))] (zE (oXs uL 2) <| zE (gH jO) <| zN (qS 5 qO qR) <| zT (qF jO) <| zZ) ?_
   refine jB <| kx [(28, (vb (decide (((16 : Nat) : Int) < (((xE v.a0) : Nat) : Int)))))] [] (zR (kK jO) <| zE (kG (zD v.a0 (kH v.a0) hv0)) <| zE yN <| zZ) ?_
   refine jK rfl (fun h3 => ?_) (fun h3 => ?_)
   ·replace h3 := of_decide_eq_true h3
    refine jB <| kA (wk (l := [(3, (.ref 0 0)), (4, (.ref 1 0)), (5, (.ref 2 0)), (20, (vl 45 4 jL [x, y, v.a0, v.a1])), (21, (jN 4)), (22, (jN 2)), (28, (vb (decide (((16 : Nat) : Int) < (((xE v.a0) : Nat) : Int)))))]) (b := [(0, some (bx (jL x))), (1, some (bx (jL y))), (2, some (bx (gP v)))])) ?_
    refine kx [(6, (vb true))] [] (zM <| zZ) ?_
    refine jH ⟨_, (.tmp (d := (.val (.bool (true)))) rfl .nil), ?_⟩
    rfl
   ·replace h3 := of_decide_eq_false h3
    refine jF <| kA (wk (l := [(3, (.ref 0 0)), (4, (.ref 1 0)), (5, (.ref 2 0)), (20, (vl 45 4 jL [x, y, v.a0, v.a1])), (21, (jN 4)), (22, (jN 2)), (28, (vb (decide (((16 : Nat) : Int) < (((xE v.a0) : Nat) : Int)))))]) (b := [(0, some (bx (jL x))), (1, some (bx (jL y))), (2, some (bx (gP v)))])) ?_
    refine kx [(22, (jN 3))] [] (zE (vJ 3 (hr := by decide)) <| zM <| zZ) ?_
    refine uK (qW.refl _) ?_
    refine jB <| kx [(23, (vb true))] [] (zE (uX true vW) <| zZ) ?_
    refine jB <| qL ?_
    refine jF <| jB <| jI <| jB <| kx [(8, (.ref 6 0))] [(6, some (bx (jL v.a1)))] (zE (oXs uL 3) <| zE (gH jO) <| zN (qS 6 qO qR) <| zT (qF jO) <| zZ) ?_
    refine jB <| kx [(28, (vb (decide (((16 : Nat) : Int) < (((xE v.a1) : Nat) : Int)))))] [] (zR (kK jO) <| zE (kG (zD v.a1 (kH v.a1) hv1)) <| zE yN <| zZ) ?_
    refine jK rfl (fun h4 => ?_) (fun h4 => ?_)
    ·replace h4 := of_decide_eq_true h4
     refine jB <| kx [(6, (vb true))] [] (zM <| zZ) ?_
     refine jH ⟨_, (.tmp (d := (.val (.bool (true)))) rfl .nil), ?_⟩
     rfl
    ·replace h4 := of_decide_eq_false h4
     exfalso; omega
theorem w_cvI (x : jJ) (p : Rat) (hx : yT x p 16) (y : jJ) (s : Rat) (hy : yT y s 16) (v : A2 jJ) (hv0 : yT v.a0 (kH v.a0) 16) (hv1 : yT v.a1 (kH v.a1) 16) (hd0 : xE x ≤ 16) (hd1 : xE y ≤ 16) (hd2 : xE v.a0 ≤ 16) (hd3 : xE v.a1 ≤ 16) (hv : (((jX x && jX v.a0) && jX v.a1) && jX y) = false) : jW Tryz.prog 5 [(jL x), (jL y), (gP v)] (.val (.bool (true))) := by
 refine jM Tryz.func5 rfl cb5 rfl ?_
 show qJ _ _ _ _ ⟨[(0, (.d (jL x))), (1, (.d (jL y))), (2, (.d (gP v)))], []⟩
 refine jB <| kx [(3, (.ref 0 0)), (4, (.ref 1 0)), (5, (.ref 2 0))] [(0, some (bx (jL x))), (1, some (bx (jL y))), (2, some (bx (gP v)))] (zN (uZ 0) <| zN (uZ 1) <| zN (uZ 2) <| zM <| zZ) ?_
 refine jB <| jB <| kx [(13, (vb false))] [] (zE (kG p_known) <| zE cE <| zZ) ?_
 refine kO ?_
 refine jF <| jB <| jB <| kx [(20, (vl 45 4 jL [x, y, v.a0, v.a1])), (21, (jN 4)), (22, (jN 0))] [] (zR (kK jO) <| zR (kK jO) <| zE (oXr dE 0) <| zR (kK jO) <| zE (oXr dE 1) <| zR (kK jO) <| zE (nU uL qO qR) <| zE (oLn uL 4) <| zM <| zZ) ?_
 refine jI <| mF 5 ?_
 refine cT <| jB <| kx [(23, (vb true))] [] (zE (uX true vW) <| zZ) ?_
 refine jB <| qL ?_
 refine jF <| jB <| jI <| jB <| kx [(8, (.ref 3 0))] [(3, some (bx (jL x)))] (zE (oXs uL 0) <| zE (gH jO) <| zN (qS 3 qO qR) <| zT (qF jO) <| zZ) ?_
 refine jB <| kx [(28, (vb (decide (((16 : Nat) : Int) < (((xE x) : Nat) : Int)))))] [] (zR (kK jO) <| zE (kG (zD x p (jR hx (by decide)))) <| zE yN <| zZ) ?_
 refine jK rfl (fun h => absurd (Eq.trans (Eq.symm (show (decide (((16 : Nat) : Int) < (((xE x) : Nat) : Int))) = false from decide_eq_false (show ¬ ((16 : Nat) : Int) < ((xE x : Nat) : Int) by omega))) h) (by decide)) (fun _ => ?_)
 refine jF <| kx [(22, (jN 1))] [] (zE (vJ 1 (hr := by decide)) <| zM <| zZ) ?_
 refine uK (qW.refl _) ?_
 refine jB <| kx [(23, (vb true))] [] (zE (uX true vW) <| zZ) ?_
 refine jB <| qL ?_
 refine jF <| jB <| jI <| jB <| kx [(8, (.ref 4 0))] [(4, some (bx (jL y)))] (zE (oXs uL 1) <| zE (gH jO) <| zN (qS 4 qO qR) <| zT (qF jO) <| zZ) ?_
 refine jB <| kx [(28, (vb (decide (((16 : Nat) : Int) < (((xE y) : Nat) : Int)))))] [] (zR (kK jO) <| zE (kG (zD y s (jR hy (by decide)))) <| zE yN <| zZ) ?_
 refine jK rfl (fun h => absurd (Eq.trans (Eq.symm (show (decide (((16 : Nat) : Int) < (((xE y) : Nat) : Int))) = false from decide_eq_false (show ¬ ((16 : Nat) : Int) < ((xE y : Nat) : Int) by omega))) h) (by decide)) (fun _ => ?_)
 refine jF <| kx [(22, (jN 2))] [] (zE (vJ 2 (hr := by decide)) <| zM <| zZ) ?_
 refine uK (qW.refl _) ?_
 refine jB <| kx [(23, (vb true))] [] (zE (uX true vW) <| zZ) ?_
 refine jB <| qL ?_
 refine jF <| jB <| jI <| jB <| kx [(8, (.ref 5 0))] [(5, some (bx (jL v.a0)))] (zE (oXs uL 2) <| zE (gH jO) <| zN (qS 5 qO qR) <| zT (qF jO) <| zZ) ?_
 refine jB <| kx [(28, (vb (decide (((16 : Nat) : Int) < (((xE v.a0) : Nat) : Int)))))] [] (zR (kK jO) <| zE (kG (zD v.a0 (kH v.a0) (jR hv0 (by decide)))) <| zE yN <| zZ) ?_
 refine jK rfl (fun h => absurd (Eq.trans (Eq.symm (show (decide (((16 : Nat) : Int) < (((xE v.a0) : Nat) : Int))) = false from decide_eq_false (show ¬ ((16 : Nat) : Int) < ((xE v.a0 : Nat) : Int) by omega))) h) (by decide)) (fun _ => ?_)
 refine jF <| kA (wk (l := [(3, (.ref 0 0)), (4, (.ref 1 0)), (5, (.ref 2 0)), (20, (vl 45 4 jL [x, y, v.a0, v.a1])), (21, (jN 4)), (22, (jN 2)), (28, (vb (decide (((16 : Nat) : Int) < (((xE v.a0) : Nat) : Int)))))]) (b := [(0, some (bx (jL x))), (1, some (bx (jL y))), (2, some (bx (gP v)))])) ?_
 refine kx [(22, (jN 3))] [] (zE (vJ 3 (hr := by decide)) <| zM <| zZ) ?_
 refine uK (qW.refl _) ?_
 refine jB <| kx [(23, (vb true))] [] (zE (uX true vW) <| zZ) ?_
 refine jB <| qL ?_
 refine jF <| jB <| jI <| jB <| kx [(8, (.ref 6 0))] [(6, some (bx (jL v.a1)))] (zE (oXs uL 3) <| zE (gH jO) <| zN (qS 6 qO qR) <| zT (qF jO) <| zZ) ?_
 refine jB <| kx [(28, (vb (decide (((16 : Nat) : Int) < (((xE v.a1) : Nat) : Int)))))] [] (zR (kK jO) <| zE (kG (zD v.a1 (kH v.a1) (jR hv1 (by decide)))) <| zE yN <| zZ) ?_
 refine jK rfl (fun h => absurd (Eq.trans (Eq.symm (show (decide (((16 : Nat) : Int) < (((xE v.a1) : Nat) : Int))) = false from decide_eq_false (show ¬ ((16 : Nat) : Int) < ((xE v.a1 : Nat) : Int) by omega))) h) (by decide)) (fun _ => ?_)
 refine jF <| kx [(22, (jN 4))] [] (zE (vJ 4 (hr := by decide)) <| zM <| zZ) ?_
 refine uK (qW.refl _) ?_
 refine jB <| kx [(23, (vb false))] [] (zE (uX false vW) <| zZ) ?_
 refine jB <| kO ?_
 refine kP <| jB <| kx [(9, (vb false)), (10, (jN 1))] [] (zR (kK jO) <| zE (oXr dE 0) <| zR (kK jO) <| zE (oXr dE 1) <| zR (kK jO) <| zR (kK jO) <| zE (kG (p_covI x p (jR hx (by decide)) v.a0 (kH v.a0) (jR hv0 (by decide)) v.a1 (kH v.a1) (jR hv1 (by decide)) y s (jR hy (by decide)) hv)) <| zM <| zE vX <| zE vX <| zM <| zM <| zZ) ?_
 refine jB <| jB <| kx [(48, (vb (!(cN [x, y, v.a0, v.a1]))))] [] (zR (kK jO) <| zR (kK jO) <| zE (oXr dE 0) <| zR (kK jO) <| zE (oXr dE 1) <| zR (kK jO) <| zE (nU uL qO qR) <| zE (kG (m_vlist [x, y, v.a0, v.a1] (row4 hx hy hv0 hv1))) <| zE cE <| zZ) ?_
 refine jK rfl (fun _ => ?_) (fun h => absurd (Eq.trans (Eq.symm (show (!(cN [x, y, v.a0, v.a1])) = true from congrArg (!·) (vrow4_no hv))) h) (by decide))
 refine jB <| kx [(6, (vb true))] [] (zM <| zE (uX true gJ) <| zM <| zM <| zE cE <| zE cR <| zM <| zZ) ?_
 refine jH ⟨_, (.tmp (d := (.val (.bool (true)))) rfl .nil), ?_⟩
 rfl
theorem w_cvN (x : jJ) (p : Rat) (hx : yT x p 16) (y : jJ) (s : Rat) (hy : yT y s 16) (v : A2 jJ) (hv0 : yT v.a0 (kH v.a0) 16) (hv1 : yT v.a1 (kH v.a1) 16) (hd0 : xE x ≤ 16) (hd1 : xE y ≤ 16) (hd2 : xE v.a0 ≤ 16) (hd3 : xE v.a1 ≤ 16) (gx : jX x = true) (gy : jX y = true) (ga : jX v.a0 = true) (gb : jX v.a1 = true) (hn : (decide ((vT (kH v.a0)) < 0) || decide ((vT (kH v.a1)) < 0)) = true) : jW Tryz.prog 5 [(jL x), (jL y), (gP v)] (.val (.bool (true))) := by
 refine jM Tryz.func5 rfl cb5 rfl ?_
 show qJ _ _ _ _ ⟨[(0, (.d (jL x))), (1, (.d (jL y))), (2, (.d (gP v)))], []⟩
 refine jB <| kx [(3, (.ref 0 0)), (4, (.ref 1 0)), (5, (.ref 2 0))] [(0, some (bx (jL x))), (1, some (bx (jL y))), (2, some (bx (gP v)))] (zN (uZ 0) <| zN (uZ 1) <| zN (uZ 2) <| zM <| zZ) ?_
 refine jB <| jB <| kx [(13, (vb false))] [] (zE (kG p_known) <| zE cE <| zZ) ?_
 refine kO ?_
 refine jF <| jB <| jB <| kx [(20, (vl 45 4 jL [x, y, v.a0, v.a1])), (21, (jN 4)), (22, (jN 0))] [] (zR (kK jO) <| zR (kK jO) <| zE (oXr dE 0) <| zR (kK jO) <| zE (oXr dE 1) <| zR (kK jO) <| zE (nU uL qO qR) <| zE (oLn uL 4) <| zM <| zZ) ?_
 refine jI <| mF 5 ?_
 refine cT <| jB <| kx [(23, (vb true))] [] (zE (uX true vW) <| zZ) ?_
 refine jB <| qL ?_
 refine jF <| jB <| jI <| jB <| kx [(8, (.ref 3 0))] [(3, some (bx (jL x)))] (zE (oXs uL 0) <| zE (gH jO) <| zN (qS 3 qO qR) <| zT (qF jO) <| zZ) ?_
 refine jB <| kx [(28, (vb (decide (((16 : Nat) : Int) < (((xE x) : Nat) : Int)))))] [] (zR (kK jO) <| zE (kG (zD x p (jR hx (by decide)))) <| zE yN <| zZ) ?_
 refine jK rfl (fun h => absurd (Eq.trans (Eq.symm (show (decide (((16 : Nat) : Int) < (((xE x) : Nat) : Int))) = false from decide_eq_false (show ¬ ((16 : Nat) : Int) < ((xE x : Nat) : Int) by omega))) h) (by decide)) (fun _ => ?_)
 refine jF <| kx [(22, (jN 1))] [] (zE (vJ 1 (hr := by decide)) <| zM <| zZ) ?_
 refine uK (qW.refl _) ?_
 refine jB <| kx [(23, (vb true))] [] (zE (uX true vW) <| zZ) ?_
 refine jB <| qL ?_
 refine jF <| jB <| jI <| jB <| kx [(8, (.ref 4 0))] [(4, some (bx (jL y)))] (zE (oXs uL 1) <| zE (gH jO) <| zN (qS 4 qO qR) <| zT (qF jO) <| zZ) ?_
 refine jB <| kx [(28, (vb (decide (((16 : Nat) : Int) < (((xE y) : Nat) : Int)))))] [] (zR (kK jO) <| zE (kG (zD y s (jR hy (by decide)))) <| zE yN <| zZ) ?_
 refine jK rfl (fun h => absurd (Eq.trans (Eq.symm (show (decide (((16 : Nat) : Int) < (((xE y) : Nat) : Int))) = false from decide_eq_false (show ¬ ((16 : Nat) : Int) < ((xE y : Nat) : Int) by omega))) h) (by decide)) (fun _ => ?_)
 refine jF <| kx [(22, (jN 2))] [] (zE (vJ 2 (hr := by decide)) <| zM <| zZ) ?_
 refine uK (qW.refl _) ?_
 refine jB <| kx [(23, (vb true))] [] (zE (uX true vW) <| zZ) ?_
 refine jB <| qL ?_
 refine jF <| jB <| jI <| jB <| kx [(8, (.ref 5 0))] [(5, some (bx (jL v.a0)))] (zE (oXs uL 2) <| zE (gH jO) <| zN (qS 5 qO qR) <| zT (qF jO) <| zZ) ?_
 refine jB <| kx [(28, (vb (decide (((16 : Nat) : Int) < (((xE v.a0) : Nat) : Int)))))] [] (zR (kK jO) <| zE (kG (zD v.a0 (kH v.a0) (jR hv0 (by decide)))) <| zE yN <| zZ) ?_
 refine jK rfl (fun h => absurd (Eq.trans (Eq.symm (show (decide (((16 : Nat) : Int) < (((xE v.a0) : Nat) : Int))) = false from decide_eq_false (show ¬ ((16 : Nat) : Int) < ((xE v.a0 : Nat) : Int) by omega))) h) (by decide)) (fun _ => ?_)
 refine jF <| kA (wk (l := [(3, (.ref 0 0)), (4, (.ref 1 0)), (5, (.ref 2 0)), (20, (vl 45 4 jL [x, y, v.a0, v.a1])), (21, (jN 4)), (22, (jN 2)), (28, (vb (decide (((16 : Nat) : Int) < (((xE v.a0) : Nat) : Int)))))]) (b := [(0, some (bx (jL x))), (1, some (bx (jL y))), (2, some (bx (gP v)))])) ?_
 refine kx [(22, (jN 3))] [] (zE (vJ 3 (hr := by decide)) <| zM <| zZ) ?_
 refine uK (qW.refl _) ?_
 refine jB <| kx [(23, (vb true))] [] (zE (uX true vW) <| zZ) ?_
 refine jB <| qL ?_
 refine jF <| jB <| jI <| jB <| kx [(8, (.ref 6 0))] [(6, some (bx (jL v.a1)))] (zE (oXs uL 3) <| zE (gH jO) <| zN (qS 6 qO qR) <| zT (qF jO) <| zZ) ?_
 refine jB <| kx [(28, (vb (decide (((16 : Nat) : Int) < (((xE v.a1) : Nat) : Int)))))] [] (zR (kK jO) <| zE (kG (zD v.a1 (kH v.a1) (jR hv1 (by decide)))) <| zE yN <| zZ) ?_
 refine jK rfl (fun h => absurd (Eq.trans (Eq.symm (show (decide (((16 : Nat) : Int) < (((xE v.a1) : Nat) : Int))) = false from decide_eq_false (show ¬ ((16 : Nat) : Int) < ((xE v.a1 : Nat) : Int) by omega))) h) (by decide)) (fun _ => ?_)
 refine jF <| kx [(22, (jN 4))] [] (zE (vJ 4 (hr := by decide)) <| zM <| zZ) ?_
 refine uK (qW.refl _) ?_
 refine jB <| kx [(23, (vb false))] [] (zE (uX false vW) <| zZ) ?_
 refine jB <| kO ?_
 refine kP <| jB <| kx [(9, (vb false)), (10, (jN 2))] [] (zR (kK jO) <| zE (oXr dE 0) <| zR (kK jO) <| zE (oXr dE 1) <| zR (kK jO) <| zR (kK jO) <| zE (kG (p_covN x p (jR hx (by decide)) v.a0 (kH v.a0) (jR hv0 (by decide)) v.a1 (kH v.a1) (jR hv1 (by decide)) y s (jR hy (by decide)) gx ga gb gy hn)) <| zM <| zE vX <| zE vX <| zM <| zM <| zZ) ?_
 refine jB <| jB <| kx [(48, (vb (!(cN [x, y, v.a0, v.a1]))))] [] (zR (kK jO) <| zR (kK jO) <| zE (oXr dE 0) <| zR (kK jO) <| zE (oXr dE 1) <| zR (kK jO) <| zE (nU uL qO qR) <| zE (kG (m_vlist [x, y, v.a0, v.a1] (row4 hx hy hv0 hv1))) <| zE cE <| zZ) ?_
 refine jK rfl (fun h => absurd (Eq.trans (Eq.symm (show (!(cN [x, y, v.a0, v.a1])) = false from congrArg (!·) (vrow4 gx gy ga gb))) h) (by decide)) (fun _ => ?_)
 refine jF <| jB <| jB <| kx [(64, (vb (decide ((vT (kH v.a0)) < ((0 : Nat) : Int)) || decide ((vT (kH v.a1)) < ((0 : Nat) : Int)))))] [] ?_ ?_
 ·refine zE (oXr dE 0) <| zR (kK jO) <| zE (kG (g_sign v.a0 (kH v.a0) (jR hv0 (by decide)))) <| zE vW <| zE (oV (vb (decide ((vT (kH v.a0)) < ((0 : Nat) : Int)))) (uA (by kernel_rfl))) <| ?_
  rcases hb1 : (decide ((vT (kH v.a0)) < ((0 : Nat) : Int))) with _ | _
  ·replace hb1 := of_decide_eq_false hb1
   exact zE (oXr dE 1) <| zR (kK jO) <| zE (kG (g_sign v.a1 (kH v.a1) (jR hv1 (by decide)))) <| zE vW <| zE oPo <| zZ
  ·replace hb1 := of_decide_eq_true hb1
   exact zK <| zK <| zK <| zK <| zE cR <| zZ
 refine jK rfl (fun _ => ?_) (fun h => absurd (Eq.trans (Eq.symm (show ((decide ((vT (kH v.a0)) < ((0 : Nat) : Int)) || decide ((vT (kH v.a1)) < ((0 : Nat) : Int)))) = true from hn)) h) (by decide))
 refine jB <| kx [(6, (vb true))] [] (zM <| zE (uX true gJ) <| zM <| zM <| zE cE <| zE cR <| zM <| zZ) ?_
 refine jH ⟨_, (.tmp (d := (.val (.bool (true)))) rfl .nil), ?_⟩
 rfl
theorem w_cv (x : jJ) (p : Rat) (hx : yT x p 16) (y : jJ) (s : Rat) (hy : yT y s 16) (v : A2 jJ) (hv0 : yT v.a0 (kH v.a0) 16) (hv1 : yT v.a1 (kH v.a1) 16) (hd0 : xE x ≤ 16) (hd1 : xE y ≤ 16) (hd2 : xE v.a0 ≤ 16) (hd3 : xE v.a1 ≤ 16) (gx : jX x = true) (gy : jX y = true) (ga : jX v.a0 = true) (gb : jX v.a1 = true) (n0 : ¬ (vT (kH v.a0)) < 0) (n1 : ¬ (vT (kH v.a1)) < 0) : jW Tryz.prog 5 [(jL x), (jL y), (gP v)] (.val (.bool (true))) := by
 refine jM Tryz.func5 rfl cb5 rfl ?_
 show qJ _ _ _ _ ⟨[(0, (.d (jL x))), (1, (.d (jL y))), (2, (.d (gP v)))], []⟩
 refine jB <| kx [(3, (.ref 0 0)), (4, (.ref 1 0)), (5, (.ref 2 0))] [(0, some (bx (jL x))), (1, some (bx (jL y))), (2, some (bx (gP v)))] (zN (uZ 0) <| zN (uZ 1) <| zN (uZ 2) <| zM <| zZ) ?_
 refine jB <| jB <| kx [(13, (vb false))] [] (zE (kG p_known) <| zE cE <| zZ) ?_
 refine kO ?_
 refine jF <| jB <| jB <| kx [(20, (vl 45 4 jL [x, y, v.a0, v.a1])), (21, (jN 4)), (22, (jN 0))] [] (zR (kK jO) <| zR (kK jO) <| zE (oXr dE 0) <| zR (kK jO) <| zE (oXr dE 1) <| zR (kK jO) <| zE (nU uL qO qR) <| zE (oLn uL 4) <| zM <| zZ) ?_
 refine jI <| mF 5 ?_
 refine cT <| jB <| kx [(23, (vb true))] [] (zE (uX true vW) <| zZ) ?_
 refine jB <| qL ?_
 refine jF <| jB <| jI <| jB <| kx [(8, (.ref 3 0))] [(3, some (bx (jL x)))] (zE (oXs uL 0) <| zE (gH jO) <| zN (qS 3 qO qR) <| zT (qF jO) <| zZ) ?_
 refine jB <| kx [(28, (vb false))] [] (zR (kK jO) <| zE (kG (zD x p (jR hx (by decide)))) <| zE (uX false yN (by exact decide_eq_false (show ¬ ((16 : Nat) : Int) < ((xE x : Nat) : Int) by omega))) <| zZ) ?_
 refine kO ?_
 refine jF <| kx [(22, (jN 1))] [] (zE (vJ 1 (hr := by decide)) <| zM <| zZ) ?_
 refine uK (qW.refl _) ?_
 refine jB <| kx [(23, (vb true))] [] (zE (uX true vW) <| zZ) ?_
 refine jB <| qL ?_
 refine jF <| jB <| jI <| jB <| kx [(8, (.ref 4 0))] [(4, some (bx (jL y)))] (zE (oXs uL 1) <| zE (gH jO) <| zN (qS 4 qO qR) <| zT (qF jO) <| zZ) ?_
 refine jB <| kx [(28, (vb false))] [] (zR (kK jO) <| zE (kG (zD y s (jR hy (by decide)))) <| zE (uX false yN (by exact decide_eq_false (show ¬ ((16 : Nat) : Int) < ((xE y : Nat) : Int) by omega))) <| zZ) ?_
 refine kO ?_
 refine jF <| kx [(22, (jN 2))] [] (zE (vJ 2 (hr := by decide)) <| zM <| zZ) ?_
 refine uK (qW.refl _) ?_
 refine jB <| kx [(23, (vb true))] [] (zE (uX true vW) <| zZ) ?_
 refine jB <| qL ?_
 refine jF <| jB <| jI <| jB <| kx [(8, (.ref 5 0))] [(5, some (bx (jL v.a0)))] (zE (oXs uL 2) <| zE (gH jO) <| zN (qS 5 qO qR) <| zT (qF jO) <| zZ) ?_
 refine jB <| kx [(28, (vb false))] [] (zR (kK jO) <| zE (kG (zD v.a0 (kH v.a0) (jR hv0 (by decide)))) <| zE (uX false yN (by exact decide_eq_false (show ¬ ((16 : Nat) : Int) < ((xE v.a0 : Nat) : Int) by omega))) <| zZ) ?_
 refine kO ?_
 refine jF <| kA (wk (l := [(3, (.ref 0 0)), (4, (.ref 1 0)), (5, (.ref 2 0)), (20, (vl 45 4 jL [x, y, v.a0, v.a1])), (21, (jN 4)), (22, (jN 2)), (28, (vb false))]) (b := [(0, some (bx (jL x))), (1, some (bx (jL y))), (2, some (bx (gP v)))])) ?_
 refine kx [(22, (jN 3))] [] (zE (vJ 3 (hr := by decide)) <| zM <| zZ) ?_
 refine uK (qW.refl _) ?_
 refine jB <| kx [(23, (vb true))] [] (zE (uX true vW) <| zZ) ?_
 refine jB <| qL ?_
 refine jF <| jB <| jI <| jB <| kx [(8, (.ref 6 0))] [(6, some (bx (jL v.a1)))] (zE (oXs uL 3) <| zE (gH jO) <| zN (qS 6 qO qR) <| zT (qF jO) <| zZ) ?_
 refine jB <| kx [(28, (vb false))] [] (zR (kK jO) <| zE (kG (zD v.a1 (kH v.a1) (jR hv1 (by decide)))) <| zE (uX false yN (by exact decide_eq_false (show ¬ ((16 : Nat) : Int) < ((xE v.a1 : Nat) : Int) by omega))) <| zZ) ?_
 refine kO ?_
 refine jF <| kx [(22, (jN 4))] [] (zE (vJ 4 (hr := by decide)) <| zM <| zZ) ?_
 refine uK (qW.refl _) ?_
 refine jB <| kx [(23, (vb false))] [] (zE (uX false vW) <| zZ) ?_
 refine jB <| kO ?_
 refine kP <| jB <| kx [(9, (vb (decide ((yE ((s - p) * (s - p)) ((kH v.a0) * (kH v.a1))) ≤ 0)))), (10, (jN 0))] [] (zR (kK jO) <| zE (oXr dE 0) <| zR (kK jO) <| zE (oXr dE 1) <| zR (kK jO) <| zR (kK jO) <| zE (kG (p_cov x p (jR hx (by decide)) v.a0 (kH v.a0) (jR hv0 (by decide)) v.a1 (kH v.a1) (jR hv1 (by decide)) y s (jR hy (by decide)) gx ga gb gy n0 n1)) <| zM <| zE vX <| zE vX <| zM <| zM <| zZ) ?_
 refine jB <| jB <| kx [(48, (vb false))] [] (zR (kK jO) <| zR (kK jO) <| zE (oXr dE 0) <| zR (kK jO) <| zE (oXr dE 1) <| zR (kK jO) <| zE (nU uL qO qR) <| zE (uX true (kG (m_vlist [x, y, v.a0, v.a1] (row4 hx hy hv0 hv1))) (by exact (vrow4 gx gy ga gb))) <| zE cE <| zZ) ?_
 refine kO ?_
 refine jF <| jB <| jB <| kx [(64, (vb false))] [] (zE (oXr dE 0) <| zR (kK jO) <| zE (kG (g_sign v.a0 (kH v.a0) (jR hv0 (by decide)))) <| zE (uX false vW (by exact decide_eq_false n0)) <| zM <| zE (oXr dE 1) <| zR (kK jO) <| zE (kG (g_sign v.a1 (kH v.a1) (jR hv1 (by decide)))) <| zE (uX false vW (by exact decide_eq_false n1)) <| zE nA <| zZ) ?_
 refine kO ?_
 refine jF <| jB <| kx [(11, (.ref 7 0))] [(7, some (bx (jL (jS (s - p)))))] (zR (kK jO) <| zR (kK jO) <| zE (kG (g_sub y x s p (jR hy (by decide)) (jR hx (by decide)))) <| zN (qS 7 qO qR) <| zT (qF jO) <| zZ) ?_
 refine jB <| kd [(6, (vb true))] [] mo (wM <| wE (uX true gJ) <| wM <| wM <| wR (kK jO) <| wR (kK jO) <| wE (kG (g_mul (jS (s - p)) (jS (s - p)) (s - p) (s - p) (jR (kM (mS (k := 33) hy.ql hx.ql (by decide))) (by decide)) (jR (kM (mS (k := 33) hy.ql hx.ql (by decide))) (by decide)))) <| wE (oXr dE 0) <| wR (kK jO) <| wE (oXr dE 1) <| wR (kK jO) <| wE (kG (g_mul v.a0 v.a1 (kH v.a0) (kH v.a1) (jR hv0 (by decide)) (jR hv1 (by decide)))) <| wE (kG (g_compare (jS ((s - p) * (s - p))) (jS ((kH v.a0) * (kH v.a1))) ((s - p) * (s - p)) ((kH v.a0) * (kH v.a1)) (jR (kM (qQ (k := 66) (mS (k := 33) hy.ql hx.ql (by decide)) (mS (k := 33) hy.ql hx.ql (by decide)) (by decide))) (by decide)) (jR (kM (qQ (k := 32) hv0.ql hv1.ql (by decide))) (by decide)))) <| wE oLe <| wE (uX true (oEb bo4) (by exact beq_self_eq_true _)) <| wE cR <| wM <| wZ) ?_
 refine jH ⟨_, (.tmp (d := (.val (.bool (true)))) rfl .nil), ?_⟩
 rfl
end Go.Proofs.YtnajallgoaiahaaGreatDoor
