/- Part 35 of a proof: rules, plain facts, and functions walked. -/
import Derived.Test.YtapjldagikfcmaaGreatM34
namespace Go.Proofs.YtapjldagikfcmaaGreat
open Go.Fid
set_option maxRecDepth 4000
set_option linter.unusedVariables false
set_option linter.unusedSimpArgs false
theorem cb52 : callB Tryz.prog 52 = true := by kernel_rfl
theorem cb53 : callB Tryz.prog 53 = true := by kernel_rfl
theorem qs_eq1 (l : List Int) (m : List Int) (hlm : l = m) (hb : l.length ≤ 1000000) : kH Tryz.prog 53 [(.sl 3 1 (List.map qL l)), (.sl 3 1 (List.map qL m))] (.val (.bool (true))) := by
 refine jM Tryz.func53 rfl cb53 rfl ?_
 show uY _ _ _ _ ⟨[(0, (vl 3 1 qL l)), (1, (vl 3 1 qL m))], []⟩
 refine jA <| kx [] [] (zM <| zZ) ?_
 refine jA <| kx [(4, (vb true))] [] (zM <| zM <| zE (kR true (kB (p_eq l m hb)) (by exact beq_iff_eq.2 hlm)) <| zM <| zZ) ?_
 refine jF ⟨_, (.tmp (d := (.val (.bool (true)))) rfl .nil), ?_⟩
 first | rfl | (rw [hlm, beq_self_eq_true]; rfl)
theorem qs_eqf (T : List (List Int)) (U : List (List Int)) (hTU : T = U) (hT : ∀ r ∈ T, r.length ≤ 1000000) (hlT : T.length ≤ 1000000) : kH Tryz.prog 52 [(.sl 22 1 (List.map kO T)), (.sl 22 1 (List.map kO U)), (.val (.func (.func 53) #[] #[]))] (.val (.bool (true))) := by
 have hTl : T.length = U.length := by rw [hTU]
 refine jM Tryz.func52 rfl cb52 rfl ?_
 show uY _ _ _ _ ⟨[(0, (vl 22 1 kO T)), (1, (vl 22 1 kO U)), (2, (.d (.val (.func (.func 53) #[] #[]))))], []⟩
 refine jA <| kx [] [] (zM <| zZ) ?_
 refine jA <| jA <| kx [(14, (vb false))] [] (zM <| zE (nE gN) <| zM <| zE (nE gN) <| zE (kR false eS (by exact bne_eq_false_iff_eq.2 (by omega))) <| zZ) ?_
 refine jT ?_
 refine jB <| jA <| jA <| kx [(15, (vl 22 1 kO T)), (16, (kD T.length)), (17, (kD 0))] [] (zM <| zE (nE gN) <| zM <| zZ) ?_
 refine jE <| uN (α := Nat) (fun k => ⟨[(1, (vl 22 1 kO U)), (2, (.d (.val (.func (.func 53) #[] #[])))), (15, (vl 22 1 kO T)), (16, (kD T.length)), (17, (kD k))], []⟩) (fun k => k ≤ T.length) (fun k => T.length - k) 0 wk (Nat.zero_le _) ?_
 rintro k hk
 refine jA <| kx [(18, (vb (decide (((k : Nat) : Int) < ((T.length : Nat) : Int)))))] [] (zE qY <| zZ) ?_
 refine jA <| jO rfl (fun h1 => ?_) (fun h1 => ?_)
 ·replace h1 := of_decide_eq_true h1
  refine jB <| jA <| jE <| jA <| kx [(7, (kD k)), (8, (vl 3 1 qL (T.getD k [])))] [] (zM <| zE (aC gN k ([] : List (Int))) <| zE (xN dK) <| zM <| zM <| zZ) ?_
  refine jA <| kx [(9, (vl 3 1 qL (U.getD k [])))] [] (zM <| zM <| zE (aC gN k ([] : List (Int))) <| zE (xN dK) <| zM <| zZ) ?_
  refine jA <| kx [(30, (vb false))] [] (zM <| zM <| zM <| zE (kB (qs_eq1 (T.getD k []) (U.getD k []) (by rw [hTU]) (tab_le hT k))) <| zE oNt <| zZ) ?_
  refine jT ?_
  refine jB <| kx [(17, (kD (k + 1)))] [] (zE (uE (k + 1)) <| zM <| zZ) ?_
  exact ⟨(k + 1), wk, (by omega), (by omega)⟩
 ·replace h1 := of_decide_eq_false h1
  refine kJ <| jA <| kx [(6, (vb true))] [] (zM <| zZ) ?_
  refine jF ⟨_, (.tmp (d := (.val (.bool (true)))) rfl .nil), ?_⟩
  rfl
end Go.Proofs.YtapjldagikfcmaaGreat
