/- Part 14 of a proof: rules, plain facts, and functions walked. -/
import Derived.Test.YtapjldagikfcmaaGreatM12
import Derived.Test.YtapjldagikfcmaaGreatM8
import Derived.Test.YtapjldagikfcmaaGreatM13
import Derived.Test.YtapjldagikfcmaaGreatChecked
import Derived.RangeFuncBox
import Derived.Shelf.Abstract
import Derived.OwnWalkIn
import Derived.TacticsInMore
import Derived.LoopNIn
import Derived.LoopIn
import Derived.Test.YtapjldagikfcmaaGreatM10
namespace Go.Proofs.YtapjldagikfcmaaGreat
open Go.Fid
set_option maxRecDepth 4000
set_option linter.unusedVariables false
set_option linter.unusedSimpArgs false
theorem mF : hP Tryz.prog 181 = some 4 := by kernel_rfl
theorem cb254 : callB Tryz.prog 254 = true := by kernel_rfl
theorem cb273 : callB Tryz.prog 273 = true := by kernel_rfl
theorem cb274 : callB Tryz.prog 274 = true := by kernel_rfl
theorem cb278 : callB Tryz.prog 278 = true := by kernel_rfl
theorem cb283 : callB Tryz.prog 283 = true := by kernel_rfl
theorem kY : zJ Tryz.prog 34 = some (181, 1) := by kernel_rfl
theorem nB : intB Tryz.prog 181 = some .u32 := by kernel_rfl
theorem yR : intB Tryz.prog 277 = some .u64 := by kernel_rfl
theorem uX : uJ Tryz.prog 181 = some (false, 1) := by kernel_rfl
theorem yY : (Tryz.prog.underlying 181).isSome = true := by kernel_rfl
theorem nA : (Tryz.prog.underlying 277).isSome = true := by kernel_rfl
theorem xZ : xL Tryz.prog 181 = some [.int .u32 0] := by kernel_rfl
theorem gL : cD [.int .u32 0] [.val (.int .u32 0)] := by simp [cD, Value.oneCell']
theorem t_at (l : List Nat) (i : Nat) : kH Tryz.prog 283 [(.sl 181 1 (List.map jC l)), (.val (.int .i64 (((i : Nat) : Int))))] (.val (.int .u32 ((((l.getD i 0) : Nat) : Int)))) := by
 refine jM Tryz.func283 rfl cb283 rfl ?_
 show uY _ _ _ _ ⟨[(0, (vl 181 1 jC l)), (1, (kD i))], []⟩
 refine jA <| kx [] [] (zM <| zZ) ?_
 refine jA <| jA <| kx [(8, (vb (decide (((i : Nat) : Int) < ((l.length : Nat) : Int)))))] [] (zM <| zM <| zE (nE kY) <| zE qY <| zZ) ?_
 refine jO rfl (fun h1 => ?_) (fun h1 => ?_)
 ·replace h1 := of_decide_eq_true h1
  refine jA <| kx [(4, (fV (l.getD i 0)))] [] (zM <| zM <| zE (aC kY i (0 : Nat)) <| zE (xN uX) <| zM <| zZ) ?_
  refine jF ⟨_, (.tmp (d := (.val (.int .u32 ((((l.getD i 0) : Nat) : Int))))) rfl .nil), ?_⟩
  rfl
 ·replace h1 := of_decide_eq_false h1
  refine jB <| jA <| kx [(4, (fV 0))] [] (zM <| zZ) ?_
  refine jF ⟨_, (.tmp (d := (.val (.int .u32 (0)))) rfl .nil), ?_⟩
  rw [show l.getD i 0 = 0 from getD_out (by omega)]; rfl
theorem t_trim (l0 : List Nat) (hd : Dig l0) (hb : l0.length ≤ 17592186044416) : kH Tryz.prog 278 [(.sl 181 1 (List.map jC l0))] (.sl 181 1 (List.map jC (ofNat (val l0)))) := by
 refine jM Tryz.func278 rfl cb278 rfl ?_
 show uY _ _ _ _ ⟨[(0, (vl 181 1 jC l0))], []⟩
 refine jA <| kx [] [] (zE (aX 181 1) <| zZ) ?_
 refine jA <| jE <| uN (α := List Nat) (fun l => ⟨[(0, (vl 181 1 jC l))], []⟩) (fun l => Dig l ∧ val l = val l0 ∧ l.length ≤ l0.length) (fun l => l.length) l0 wk ⟨hd, rfl, Nat.le_refl _⟩ ?_
 rintro l ⟨hl, hv, hle⟩
 refine jA <| jA <| kx [(14, (vb (decide (0 < ((l.length : Nat) : Int)) && ((((l.getD (l.length - 1) 0) : Nat) : Int) == 0))))] [] ?_ ?_
 ·refine zM <| zE (nE kY) <| zE yZ <| zE (oV (vb (decide (0 < ((l.length : Nat) : Int)))) (uS (by kernel_rfl))) <| ?_
  rcases hb1 : (decide (0 < ((l.length : Nat) : Int))) with _ | _
  ·replace hb1 := of_decide_eq_false hb1
   exact zK <| zK <| zK <| zK <| zK <| zK <| zK <| zE zU <| zZ
  ·replace hb1 := of_decide_eq_true hb1
   exact zM <| zM <| zE (nE kY) <| zE (oSb (l.length - 1)) <| zE (aC kY (l.length - 1) (0 : Nat)) <| zE (xN uX) <| zE xK <| zE oPa <| zZ
 refine jO rfl (fun h2 => ?_) (fun h2 => ?_)
 ·obtain ⟨hp, _⟩ := trim_cond h2
  refine jB <| jE <| kx [(0, (vl 181 1 jC (List.take (l.length - 1) l)))] [] (zM <| zM <| zE (nE kY) <| zE (oSb (l.length - 1)) <| zE (e_slc (l := 0) (h := (l.length - 1)) (kl := .i64) (kh := .i64) (es' := List.map jC (List.take (l.length - 1) l)) (by exact rfl) kY (by exact rfl) (by exact rfl) (by exact rfl) (Nat.zero_le _) (by simp only [List.length_map]; omega) (by rw [List.drop_zero, List.map_take])) <| zM <| zZ) ?_
  exact ⟨(l.take (l.length - 1)), wk, (trim_step hl hv hle h2), (trim_less h2)⟩
 ·refine kJ <| jA <| kx [(2, (vl 181 1 jC l))] [] (zM <| zM <| zZ) ?_
  refine jF ⟨_, (.tmp (d := (.sl 181 1 (List.map jC l))) rfl .nil), ?_⟩
  rw [trim_end hl hv h2]; rfl
theorem t_plus (a b : List Nat) (hda : Dig a) (hdb : Dig b) (hla : a.length ≤ 8796093022208) (hlb : b.length ≤ 8796093022208) : kH Tryz.prog 273 [(.sl 181 1 (List.map jC a)), (.sl 181 1 (List.map jC b))] (.sl 181 1 (List.map jC (ofNat (val a + val b)))) := by
 refine jM Tryz.func273 rfl cb273 rfl ?_
 show uY _ _ _ _ ⟨[(0, (vl 181 1 jC a)), (1, (vl 181 1 jC b))], []⟩
 refine jA <| kx [] [] (zE (aX 181 1) <| zZ) ?_
 refine jA <| kx [(5, (.own 0 181 1 ((max a.length b.length) + 1)))] [(0, some (bm jC (List.replicate ((max a.length b.length) + 1) 0)))] (zM <| zE (nE kY) <| zM <| zE (nE kY) <| zE (oMx (max a.length b.length)) <| zE (uE ((max a.length b.length) + 1)) <| zN (oMk 0 jC (0 : Nat) ((max a.length b.length) + 1) ((max a.length b.length) + 1) kY xZ gL mF) <| zM <| zZ) ?_
 refine jA <| kx [(6, (fV 0))] [] (zM <| zZ) ?_
 refine jA <| jA <| kx [(17, (kD ((max a.length b.length) + 1))), (18, (kD 0))] [] (zM <| zE (oLo kY) <| zM <| zZ) ?_
 refine jE <| uN (α := Nat × List Nat × Nat) (fun (i, out, c) => ⟨[(0, (vl 181 1 jC a)), (1, (vl 181 1 jC b)), (5, (.own 0 181 1 ((max a.length b.length) + 1))), (6, (fV c)), (17, (kD ((max a.length b.length) + 1))), (18, (kD i))], [(0, some (bm jC out))]⟩) (fun (i, out, c) => out.length = max a.length b.length + 1 ∧ Dig out ∧ i ≤ max a.length b.length + 1 ∧ c ≤ 1 ∧ val (out.take i) + pw i * c = val (a.take i) + val (b.take i)) (fun (i, out, c) => max a.length b.length + 1 - i) (0, List.replicate (max a.length b.length + 1) 0, 0) wk ⟨by simp, yM _, Nat.zero_le _, Nat.zero_le _, by simp [val]⟩ ?_
 rintro ⟨i, out, c⟩ ⟨vJ, hdo, hi, hc, hv⟩
 have hai := hda.getD i
 have hbi := hdb.getD i
 refine jA <| kx [(19, (vb (decide (((i : Nat) : Int) < ((((max a.length b.length) + 1) : Nat) : Int)))))] [] (zE qY <| zZ) ?_
 refine jA <| jO rfl (fun h1 => ?_) (fun h1 => ?_)
 ·replace h1 := of_decide_eq_true h1
  refine jB <| jA <| jE <| jA <| kx [(7, (kD i))] [] (zM <| zM <| zZ) ?_
  refine jA <| kx [(8, (fV (((a.getD i 0) + (b.getD i 0)) + c)))] [] (zM <| zM <| zE (kB (t_at a i)) <| zM <| zM <| zE (kB (t_at b i)) <| zE (uE ((a.getD i 0) + (b.getD i 0))) <| zM <| zE (uE (((a.getD i 0) + (b.getD i 0)) + c)) <| zM <| zZ) ?_
  refine jA <| kx [(6, (fV 0))] [] (zM <| zZ) ?_
  refine jA <| jA <| kx [(31, (vb (decide (1000000000 ≤ (((((a.getD i 0) + (b.getD i 0)) + c) : Nat) : Int)))))] [] (zM <| zE oGe <| zZ) ?_
  refine jO rfl (fun h2 => ?_) (fun h2 => ?_)
  ·replace h2 := of_decide_eq_true h2
   refine kx [(6, (fV 1)), (8, (fV ((((a.getD i 0) + (b.getD i 0)) + c) - 1000000000)))] [] (zM <| zE (oSb ((((a.getD i 0) + (b.getD i 0)) + c) - 1000000000)) <| zM <| zM <| zZ) ?_
   refine kx [] [(0, some (bm jC (out.set i ((((a.getD i 0) + (b.getD i 0)) + c) - 1000000000))))] (zM <| zM <| zM <| zE (oXo kY i) <| zT (oSp uX i ((((a.getD i 0) + (b.getD i 0)) + c) - 1000000000)) <| zZ) ?_
   refine kx [(18, (kD (i + 1)))] [] (zE (uE (i + 1)) <| zM <| zZ) ?_
   exact ⟨(i + 1, out.set i (a.getD i 0 + b.getD i 0 + c - 1000000000), 1), wk, (by obtain ⟨q1, q2, q3⟩ := plus_step (s := a.getD i 0 + b.getD i 0 + c - 1000000000) (c' := 1) vJ hdo (by omega) hv (by omega) (by omega); exact ⟨q1, q2, by omega, by omega, q3⟩), (by first | omega | (dsimp only; omega))⟩
  ·replace h2 := of_decide_eq_false h2
   refine jB <| kx [] [(0, some (bm jC (out.set i (((a.getD i 0) + (b.getD i 0)) + c))))] (zM <| zM <| zM <| zE (oXo kY i) <| zT (oSp uX i (((a.getD i 0) + (b.getD i 0)) + c)) <| zZ) ?_
   refine kx [(18, (kD (i + 1)))] [] (zE (uE (i + 1)) <| zM <| zZ) ?_
   exact ⟨(i + 1, out.set i (a.getD i 0 + b.getD i 0 + c), 0), wk, (by obtain ⟨q1, q2, q3⟩ := plus_step (s := a.getD i 0 + b.getD i 0 + c) (c' := 0) vJ hdo (by omega) hv (by omega) (by omega); exact ⟨q1, q2, by omega, by omega, q3⟩), (by first | omega | (dsimp only; omega))⟩
 ·replace h1 := of_decide_eq_false h1
  have hie : i = max a.length b.length + 1 := by omega
  rw [hie] at hv
  refine kJ <| jA <| kP (xY (t := 5) (k := 0) (es := List.map jC out) rfl rfl (vY _ _ (fun _ => rfl)) (xP _ _ vJ) (zB _ _ (fun _ => rfl) vJ)) ?_
  refine kx [(4, (vl 181 1 jC (ofNat (val out))))] [] (zM <| zE (kB (t_trim out (by assumption) (by omega))) <| zM <| zZ) ?_
  refine jF ⟨_, (.tmp (d := (.sl 181 1 (List.map jC (ofNat (val out))))) rfl .nil), ?_⟩
  rw [plus_end hda hdb vJ hv]; rfl
theorem t_minus (a b : List Nat) (hda : Dig a) (hdb : Dig b) (hba : val b ≤ val a) (hla : a.length ≤ 8796093022208) : kH Tryz.prog 274 [(.sl 181 1 (List.map jC a)), (.sl 181 1 (List.map jC b))] (.sl 181 1 (List.map jC (ofNat (val a - val b)))) := by
 refine jM Tryz.func274 rfl cb274 rfl ?_
 show uY _ _ _ _ ⟨[(0, (vl 181 1 jC a)), (1, (vl 181 1 jC b))], []⟩
 refine jA <| kx [] [] (zE (aX 181 1) <| zZ) ?_
 refine jA <| kx [(5, (.own 0 181 1 a.length))] [(0, some (bm jC (List.replicate a.length 0)))] (zM <| zE (nE kY) <| zN (oMk 0 jC (0 : Nat) a.length a.length kY xZ gL mF) <| zM <| zZ) ?_
 refine jA <| kx [(6, (fV 0))] [] (zM <| zZ) ?_
 refine jA <| jA <| kx [(13, (kD a.length)), (14, (kD 0))] [] (zM <| zE (oLo kY) <| zM <| zZ) ?_
 refine jE <| uN (α := Nat × List Nat × Nat) (fun (i, out, c) => ⟨[(0, (vl 181 1 jC a)), (1, (vl 181 1 jC b)), (5, (.own 0 181 1 a.length)), (6, (fV c)), (13, (kD a.length)), (14, (kD i))], [(0, some (bm jC out))]⟩) (fun (i, out, c) => out.length = a.length ∧ Dig out ∧ i ≤ a.length ∧ c ≤ 1 ∧ val (out.take i) + val (b.take i) = val (a.take i) + pw i * c) (fun (i, out, c) => a.length - i) (0, List.replicate a.length 0, 0) wk ⟨by simp, yM _, Nat.zero_le _, Nat.zero_le _, by simp [val]⟩ ?_
 rintro ⟨i, out, c⟩ ⟨vJ, hdo, hi, hc, hv⟩
 have hai := hda.getD i
 have hbi := hdb.getD i
 refine jA <| kx [(15, (vb (decide (((i : Nat) : Int) < ((a.length : Nat) : Int)))))] [] (zE qY <| zZ) ?_
 refine jA <| jO rfl (fun h1 => ?_) (fun h1 => ?_)
 ·replace h1 := of_decide_eq_true h1
  refine jB <| jA <| jE <| jA <| kx [(7, (kD i))] [] (zM <| zM <| zZ) ?_
  refine jA <| kx [(8, (fV ((b.getD i 0) + c)))] [] (zM <| zM <| zE (kB (t_at b i)) <| zM <| zE (uE ((b.getD i 0) + c)) <| zM <| zZ) ?_
  refine jA <| kx [(6, (fV 0))] [] (zM <| zZ) ?_
  refine jA <| kx [(27, (vb (decide ((((a.getD i 0) : Nat) : Int) < ((((b.getD i 0) + c) : Nat) : Int)))))] [] (zM <| zM <| zE (aC kY i (0 : Nat)) <| zE (xN uX) <| zM <| zE qY <| zZ) ?_
  refine jO rfl (fun h2 => ?_) (fun h2 => ?_)
  ·replace h2 := of_decide_eq_true h2
   refine kx [(6, (fV 1))] [(0, some (bm jC (out.set i (((a.getD i 0) + 1000000000) - ((b.getD i 0) + c)))))] (zM <| zM <| zM <| zM <| zE (aC kY i (0 : Nat)) <| zE (xN uX) <| zE (uE ((a.getD i 0) + 1000000000)) <| zM <| zE (oSb (((a.getD i 0) + 1000000000) - ((b.getD i 0) + c))) <| zE (oXo kY i) <| zT (oSp uX i (((a.getD i 0) + 1000000000) - ((b.getD i 0) + c))) <| zM <| zZ) ?_
   refine kx [(14, (kD (i + 1)))] [] (zE (uE (i + 1)) <| zM <| zZ) ?_
   exact ⟨(i + 1, out.set i (a.getD i 0 + 1000000000 - (b.getD i 0 + c)), 1), wk, (by obtain ⟨q1, q2, q3⟩ := minus_step (s := a.getD i 0 + 1000000000 - (b.getD i 0 + c)) (c' := 1) vJ hdo (by omega) hv (by omega) (by omega); exact ⟨q1, q2, by omega, by omega, q3⟩), (by first | omega | (dsimp only; omega))⟩
  ·replace h2 := of_decide_eq_false h2
   refine kx [] [(0, some (bm jC (out.set i ((a.getD i 0) - ((b.getD i 0) + c)))))] (zM <| zM <| zM <| zM <| zE (aC kY i (0 : Nat)) <| zE (xN uX) <| zM <| zE (oSb ((a.getD i 0) - ((b.getD i 0) + c))) <| zE (oXo kY i) <| zT (oSp uX i ((a.getD i 0) - ((b.getD i 0) + c))) <| zZ) ?_
   refine kx [(14, (kD (i + 1)))] [] (zE (uE (i + 1)) <| zM <| zZ) ?_
   exact ⟨(i + 1, out.set i (a.getD i 0 - (b.getD i 0 + c)), 0), wk, (by obtain ⟨q1, q2, q3⟩ := minus_step (s := a.getD i 0 - (b.getD i 0 + c)) (c' := 0) vJ hdo (by omega) hv (by omega) (by omega); exact ⟨q1, q2, by omega, by omega, q3⟩), (by first | omega | (dsimp only; omega))⟩
 ·replace h1 := of_decide_eq_false h1
  have hie : i = a.length := by omega
  rw [hie] at hv
  refine kJ <| jA <| kP (xY (t := 5) (k := 0) (es := List.map jC out) rfl rfl (vY _ _ (fun _ => rfl)) (xP _ _ vJ) (zB _ _ (fun _ => rfl) vJ)) ?_
  refine kx [(4, (vl 181 1 jC (ofNat (val out))))] [] (zM <| zE (kB (t_trim out (by assumption) (by omega))) <| zM <| zZ) ?_
  refine jF ⟨_, (.tmp (d := (.sl 181 1 (List.map jC (ofNat (val out))))) rfl .nil), ?_⟩
  rw [minus_end hda hdb hdo hba vJ hv]; rfl
theorem t_times (a b : List Nat) (hda : Dig a) (hdb : Dig b) (hla : a.length ≤ 4398046511104) (hlb : b.length ≤ 4398046511104) : kH Tryz.prog 254 [(.sl 181 1 (List.map jC a)), (.sl 181 1 (List.map jC b))] (.sl 181 1 (List.map jC (ofNat (val a * val b)))) := by
 refine jM Tryz.func254 rfl cb254 rfl ?_
 show uY _ _ _ _ ⟨[(0, (vl 181 1 jC a)), (1, (vl 181 1 jC b))], []⟩
 refine jA <| kx [] [] (zE (aX 181 1) <| zZ) ?_
 refine jA <| kx [(5, (.own 0 181 1 (a.length + b.length)))] [(0, some (bm jC (List.replicate (a.length + b.length) 0)))] (zM <| zE (nE kY) <| zM <| zE (nE kY) <| zE (uE (a.length + b.length)) <| zN (oMk 0 jC (0 : Nat) (a.length + b.length) (a.length + b.length) kY xZ gL mF) <| zM <| zZ) ?_
 refine jA <| jA <| kx [(18, (vl 181 1 jC a)), (19, (kD a.length)), (20, (kD 0))] [] (zM <| zE (nE kY) <| zM <| zZ) ?_
 refine jE <| uN (α := Nat × List Nat) (fun (i, out) => ⟨[(1, (vl 181 1 jC b)), (5, (.own 0 181 1 (a.length + b.length))), (18, (vl 181 1 jC a)), (19, (kD a.length)), (20, (kD i))], [(0, some (bm jC out))]⟩) (fun (i, out) => out.length = a.length + b.length ∧ Dig out ∧ i ≤ a.length ∧ (∀ k, i + b.length ≤ k → out.getD k 0 = 0) ∧ val out = val (a.take i) * val b) (fun (i, out) => a.length - i) (0, List.replicate (a.length + b.length) 0) wk ⟨by simp, yM _, Nat.zero_le _, fun k _ => fZ _ k, by simp [val, eA]⟩ ?_
 rintro ⟨i, out⟩ ⟨vJ, hdo, hi, hz, hv⟩
 have hai := hda.getD i
 refine jA <| kx [(21, (vb (decide (((i : Nat) : Int) < ((a.length : Nat) : Int)))))] [] (zE qY <| zZ) ?_
 refine jA <| jO rfl (fun h1 => ?_) (fun h1 => ?_)
 ·replace h1 := of_decide_eq_true h1
  refine jB <| jA <| jE <| jA <| kx [(6, (kD i)), (7, (fV (a.getD i 0)))] [] (zM <| zE (aC kY i (0 : Nat)) <| zE (xN uX) <| zM <| zM <| zZ) ?_
  refine jA <| kx [(8, (gW 0))] [] (zM <| zZ) ?_
  refine jA <| jA <| kx [(25, (vl 181 1 jC b)), (26, (kD b.length)), (27, (kD 0))] [] (zM <| zE (nE kY) <| zM <| zZ) ?_
  refine jE <| uN (α := Nat × List Nat × Nat) (fun (j, o2, c) => ⟨[(1, (vl 181 1 jC b)), (5, (.own 0 181 1 (a.length + b.length))), (6, (kD i)), (7, (fV (a.getD i 0))), (8, (gW c)), (18, (vl 181 1 jC a)), (19, (kD a.length)), (20, (kD i)), (25, (vl 181 1 jC b)), (26, (kD b.length)), (27, (kD j))], [(0, some (bm jC o2))]⟩) (fun (j, o2, c) => o2.length = a.length + b.length ∧ Dig o2 ∧ j ≤ b.length ∧ c < 1000000000 ∧ (∀ k, i + b.length ≤ k → o2.getD k 0 = 0) ∧ val o2 + pw (i + j) * c = val (a.take i) * val b + pw i * (a.getD i 0 * val (b.take j))) (fun (j, o2, c) => b.length - j) (0, out, 0) wk ⟨vJ, hdo, Nat.zero_le _, by decide, hz, by simp [val, hv]⟩ ?_
  rintro ⟨j, o2, c⟩ ⟨hlen2, hdo2, hj, hc, hz2, hv2⟩
  have hbj := hdb.getD j
  have hoj := hdo2.getD (i + j)
  have hpq : a.getD i 0 * b.getD j 0 ≤ 999999999 * 999999999 := Nat.mul_le_mul (by omega) (by omega)
  refine jA <| kx [(28, (vb (decide (((j : Nat) : Int) < ((b.length : Nat) : Int)))))] [] (zE qY <| zZ) ?_
  refine jA <| jO rfl (fun h2 => ?_) (fun h2 => ?_)
  ·replace h2 := of_decide_eq_true h2
   refine jB <| jA <| jE <| jA <| kx [(9, (kD j)), (10, (fV (b.getD j 0)))] [] (zM <| zE (aC kY j (0 : Nat)) <| zE (xN uX) <| zM <| zM <| zZ) ?_
   refine jA <| kx [(11, (gW (((o2.getD (i + j) 0) + ((a.getD i 0) * (b.getD j 0))) + c)))] [] (zM <| zM <| zM <| zE (uE (i + j)) <| zE (oXo kY (i + j)) <| zR (oLp uX (i + j) (0 : Nat)) <| zE (mV yY yR (o2.getD (i + j) 0)) <| zM <| zE (mV yY yR (a.getD i 0)) <| zM <| zE (mV yY yR (b.getD j 0)) <| zE (oMl ((a.getD i 0) * (b.getD j 0))) <| zE (uE ((o2.getD (i + j) 0) + ((a.getD i 0) * (b.getD j 0)))) <| zM <| zE (uE (((o2.getD (i + j) 0) + ((a.getD i 0) * (b.getD j 0))) + c)) <| zM <| zZ) ?_
   refine kx [(8, (gW ((((o2.getD (i + j) 0) + ((a.getD i 0) * (b.getD j 0))) + c) / 1000000000)))] [(0, some (bm jC (o2.set (i + j) ((((o2.getD (i + j) 0) + ((a.getD i 0) * (b.getD j 0))) + c) % 1000000000))))] (zM <| zM <| zM <| zE (uE (i + j)) <| zM <| zE (oRe ((((o2.getD (i + j) 0) + ((a.getD i 0) * (b.getD j 0))) + c) % 1000000000)) <| zE (mV nA nB ((((o2.getD (i + j) 0) + ((a.getD i 0) * (b.getD j 0))) + c) % 1000000000)) <| zM <| zE (oQu ((((o2.getD (i + j) 0) + ((a.getD i 0) * (b.getD j 0))) + c) / 1000000000)) <| zE (oXo kY (i + j)) <| zT (oSp uX (i + j) ((((o2.getD (i + j) 0) + ((a.getD i 0) * (b.getD j 0))) + c) % 1000000000)) <| zM <| zZ) ?_
   refine kx [(27, (kD (j + 1)))] [] (zE (uE (j + 1)) <| zM <| zZ) ?_
   exact ⟨(j + 1, o2.set (i + j) ((o2.getD (i + j) 0 + a.getD i 0 * b.getD j 0 + c) % 1000000000), (o2.getD (i + j) 0 + a.getD i 0 * b.getD j 0 + c) / 1000000000), wk, (by obtain ⟨q1, q2⟩ := times_step (by omega) hdo2 hv2 rfl (val_take_succ b j); exact ⟨by simpa using hlen2, q1, by omega, by omega, zero_set (by omega) hz2, q2⟩), (by first | omega | (dsimp only; omega))⟩
  ·replace h2 := of_decide_eq_false h2
   have hje : j = b.length := by omega
   rw [hje] at hv2
   refine kJ <| kx [] [(0, some (bm jC (o2.set (i + b.length) c)))] (zM <| zM <| zM <| zE (nE kY) <| zE (uE (i + b.length)) <| zM <| zE (mV nA nB c) <| zE (oXo kY (i + b.length)) <| zT (oSp uX (i + b.length) c) <| zZ) ?_
   refine kx [(20, (kD (i + 1)))] [] (zE (uE (i + 1)) <| zM <| zZ) ?_
   exact ⟨(i + 1, o2.set (i + b.length) c), wk, (by obtain ⟨q1, q2, q3, q4⟩ := times_row hdo2 (by omega) hlen2 hz2 hc hv2; exact ⟨q1, q2, by omega, q3, q4⟩), (by first | omega | (dsimp only; omega))⟩
 ·replace h1 := of_decide_eq_false h1
  have hie : i = a.length := by omega
  rw [hie, List.take_length] at hv
  refine kJ <| jA <| kP (xY (t := 5) (k := 0) (es := List.map jC out) rfl rfl (vY _ _ (fun _ => rfl)) (xP _ _ vJ) (zB _ _ (fun _ => rfl) vJ)) ?_
  refine kx [(4, (vl 181 1 jC (ofNat (val out))))] [] (zM <| zE (kB (t_trim out (by assumption) (by omega))) <| zM <| zZ) ?_
  refine jF ⟨_, (.tmp (d := (.sl 181 1 (List.map jC (ofNat (val out))))) rfl .nil), ?_⟩
  rw [hv]; rfl
end Go.Proofs.YtapjldagikfcmaaGreat
namespace Go.Proofs.YtapjldagikfcmaaGreat
open Go.RowKit Go.Shelf
attribute [local go_sem] Oper.semAt_some
set_option maxRecDepth 100000 in
set_option maxHeartbeats 2000000 in
theorem back1 (N l Bs b off len cap : Nat) (u : Nat → Value) (vJ : (len : Int) ≤ 9223372036854775807) (J : Nat → World → Prop) (Jx : World → Prop)
    (hc : ∀ j W, J j W → W.cell? ⟨Bs, 0, none⟩ = some (.slice (some ⟨b, off, none⟩) len cap) ∧ ∀ i, i < len → W.cell? ⟨b, off + i, none⟩ = some (u i))
    (hY : ∀ j W, J j W → j < len → YieldAt Fence.wide N Tryz.prog l #[.int .i64 ((len : Int) - 1 - (j : Int)), u (len - 1 - j)] W fun e W' =>
      (e = .returned (.bool true) ∧ J (j + 1) W') ∨ (e = .returned (.bool false) ∧ Jx W'))
    (W : World) (h0 : J 0 W) :
    CallsIn Fence.wide (N + 1) Tryz.prog 272 #[.func (.yield l) #[] #[], .pointer (some ⟨Bs, 0, none⟩)] W fun e W' => (∃ v, e = .returned v) ∧ (J len W' ∨ Jx W') := by
  refine callsIn_of_wp Tryz.func272 rfl trivial ?_ rfl
  simp only [Tryz.ntmps272, List.size_toArray, List.length_cons, List.length_nil, Nat.reduceAdd, Nat.reduceSub, Array.replicate_succ, Array.replicate_zero, List.push_toArray, List.append_toArray, List.nil_append, List.cons_append]
  have hBs := (hc 0 W h0).1
  gi_wp2
  gi_loopw [3] (fun i wr => ∃ j : Nat, j ≤ len ∧ i = .int .i64 ((len : Int) - 1 - (j : Int)) ∧ J j wr)
    (fun i _ => (intOf i + 1).toNat)
  case atStart => exact ⟨0, Nat.zero_le _, by simp, h0⟩
  case round =>
    obtain ⟨j, hk, rfl, hJs⟩ := hrel
    have hBj := (hc j wr hJs).1
    by_cases hlt : j < len
    · have hcj := (hc j wr hJs).2 (len - 1 - j) (by omega)
      obtain ⟨fn, tmps, assign, body, hy, hR⟩ := hY j wr hJs hlt
      gi_wp2
      refine hR.mono ?_
      rintro e W3 (⟨rfl, hJ3⟩ | ⟨rfl, hJx3⟩)
      · gi_wp2
        go_roundw
        case rel => exact ⟨j + 1, by omega, by simp; omega, hJ3⟩
        case measure => simp [intOf]; omega
      · gi_wp2
        refine bodyPost_ret (results_none rfl _ _ _) rfl ?_
        exact ⟨⟨_, rfl⟩, .inr hJx3⟩
    · obtain rfl : j = len := by omega
      gi_wp2
      go_end0
      exact ⟨⟨_, rfl⟩, .inl hJs⟩
set_option maxRecDepth 100000 in
set_option maxHeartbeats 2000000 in
theorem back1_nil (N l Bs cap : Nat) (ao : Option Addr) (J : World → Prop) (W : World) (hBs : W.cell? ⟨Bs, 0, none⟩ = some (.slice ao 0 cap)) (h0 : J W) :
    CallsIn Fence.wide (N + 1) Tryz.prog 272 #[.func (.yield l) #[] #[], .pointer (some ⟨Bs, 0, none⟩)] W fun e W' => (∃ v, e = .returned v) ∧ J W' := by
  refine callsIn_of_wp Tryz.func272 rfl trivial ?_ rfl
  simp only [Tryz.ntmps272, List.size_toArray, List.length_cons, List.length_nil, Nat.reduceAdd, Nat.reduceSub, Array.replicate_succ, Array.replicate_zero, List.push_toArray, List.append_toArray, List.nil_append, List.cons_append]
  gi_wp2
  gi_loopw [3] (fun i wr => i = .int .i64 (-1) ∧ J wr) (fun _ _ => 0)
  case atStart => exact ⟨by simp, h0⟩
  case round =>
    obtain ⟨rfl, hJs⟩ := hrel
    gi_wp2
    go_end0
    exact ⟨⟨_, rfl⟩, hJs⟩
set_option maxHeartbeats 1000000 in
theorem back_in (a : Option Addr) (len cap : Nat) (w : World) :
    Calls Tryz.prog 229 #[.slice a len cap] w fun e w' => e = .returned (.func (.func 272) #[] #[.pointer (some ⟨w.heap.size, 0, none⟩)]) ∧ w' = w.alloc (.cells #[.slice a len cap] 34) := by
  refine (callsIn_wide (n := 1)).1 (callsIn_of_wp Tryz.func229 rfl trivial ?_ rfl)
  simp only [Tryz.ntmps229, List.size_toArray, List.length_cons, List.length_nil, Nat.reduceAdd, Nat.reduceSub, Array.replicate_succ, Array.replicate_zero, List.push_toArray, List.append_toArray, List.nil_append, List.cons_append]
  gi_wp2
  go_ret
  exact ⟨rfl, rfl⟩
theorem backs : Go.Fid.Backs Tryz.prog 229 272 34 := ⟨back_in, back1_nil, fun N l c b off len cap u vJ J Jx hc hY W h0 => back1 N l c b off len cap u vJ J Jx hc hY W h0, enters_of Tryz.func272 (by kernel_rfl) rfl⟩
end Go.Proofs.YtapjldagikfcmaaGreat
namespace Go.Proofs.YtapjldagikfcmaaGreat
open Go.Fid
set_option maxRecDepth 4000
set_option linter.unusedVariables false
set_option linter.unusedSimpArgs false
theorem cb229 : callB Tryz.prog 229 = true := by kernel_rfl
theorem cb243 : callB Tryz.prog 243 = true := by kernel_rfl
theorem cb244 : callB Tryz.prog 244 = true := by kernel_rfl
theorem cb245 : callB Tryz.prog 245 = true := by kernel_rfl
theorem cb246 : callB Tryz.prog 246 = true := by kernel_rfl
theorem cb247 : callB Tryz.prog 247 = true := by kernel_rfl
theorem cb276 : callB Tryz.prog 276 = true := by kernel_rfl
theorem cb277 : callB Tryz.prog 277 = true := by kernel_rfl
theorem cb284 : callB Tryz.prog 284 = true := by kernel_rfl
theorem pl36 : cJ Tryz.prog 36 = some [(0, 1), (1, 1)] := by kernel_rfl
theorem qP : uJ Tryz.prog 3 = some (false, 1) := by kernel_rfl
theorem gF : uJ Tryz.prog 34 = some (false, 1) := by kernel_rfl
theorem kK : uJ Tryz.prog 36 = some (true, 2) := by kernel_rfl
theorem fQ : uJ Tryz.prog 277 = some (false, 1) := by kernel_rfl
theorem ze3 : xL Tryz.prog 3 = some [.int .i64 0] := by kernel_rfl
theorem hH : xL Tryz.prog 36 = some [.bool false, .slice none 0 0] := by kernel_rfl
theorem ze277 : xL Tryz.prog 277 = some [.int .u64 0] := by kernel_rfl
theorem zo3 : cD [.int .i64 0] [.val (.int .i64 0)] := by simp [cD, Value.oneCell']
theorem hM : cD [.bool false, .slice none 0 0] [.val (.bool false), .sl 181 1 []] := by simp [cD, Value.oneCell']
theorem zo277 : cD [.int .u64 0] [.val (.int .u64 0)] := by simp [cD, Value.oneCell']
theorem t_isnan_int (a : Int) : kH Tryz.prog 276 [(.val (.int .i64 (a)))] (.val (.bool (false))) := by
 refine jM Tryz.func276 rfl cb276 rfl ?_
 show uY _ _ _ _ ⟨[(0, (vi a))], []⟩
 refine jA <| kx [] [] (zM <| zZ) ?_
 refine jA <| kx [(2, (vb (a != a)))] [] (zM <| zM <| zE eS <| zM <| zZ) ?_
 refine jF ⟨_, (.tmp (d := (.val (.bool ((a != a))))) rfl .nil), ?_⟩
 simp [retD]
theorem t_cmp_int (a b : Int) : kH Tryz.prog 243 [(.val (.int .i64 (a))), (.val (.int .i64 (b)))] (.val (.int .i64 ((xR a b)))) := by
 refine jM Tryz.func243 rfl cb243 rfl ?_
 show uY _ _ _ _ ⟨[(0, (vi a)), (1, (vi b))], []⟩
 refine jA <| kx [] [] (zM <| zZ) ?_
 refine jA <| kx [(5, (vb false))] [] (zM <| zE (kB (t_isnan_int a)) <| zM <| zZ) ?_
 refine jA <| kx [(6, (vb false))] [] (zM <| zE (kB (t_isnan_int b)) <| zM <| zZ) ?_
 refine jA <| jA <| kx [(11, (vb false))] [] (zM <| zZ) ?_
 refine jT ?_
 refine jB <| jA <| jA <| kx [(13, (vb false))] [] (zM <| zZ) ?_
 refine jT ?_
 refine jB <| jA <| jA <| kx [(16, (vb (decide (a < b))))] [] (zM <| zM <| zE qY <| zZ) ?_
 refine jO (b := decide (a < b)) rfl (fun h1 => ?_) (fun h1 => ?_)
 ·replace h1 := of_decide_eq_true h1
  refine jA <| kx [(4, (vi (-1)))] [] (zM <| zZ) ?_
  refine jF ⟨_, (.tmp (d := (.val (.int .i64 (-1)))) rfl .nil), ?_⟩
  rw [show xR a b = -1 from if_pos h1]; rfl
 ·replace h1 := of_decide_eq_false h1
  refine jB <| jA <| jA <| kx [(19, (vb (decide (b < a))))] [] (zM <| zM <| zE yZ <| zZ) ?_
  refine jO (b := decide (b < a)) rfl (fun h2 => ?_) (fun h2 => ?_)
  ·replace h2 := of_decide_eq_true h2
   refine jA <| kx [(4, (kD 1))] [] (zM <| zZ) ?_
   refine jF ⟨_, (.tmp (d := (.val (.int .i64 (1)))) rfl .nil), ?_⟩
   rw [aK h2]; rfl
  ·replace h2 := of_decide_eq_false h2
   refine jB <| jA <| kx [(4, (kD 0))] [] (zM <| zZ) ?_
   refine jF ⟨_, (.tmp (d := (.val (.int .i64 (0)))) rfl .nil), ?_⟩
   rw [cmpI_eq h1 h2]; rfl
theorem t_isnan_uint32 (a : Nat) : kH Tryz.prog 284 [(.val (.int .u32 (((a : Nat) : Int))))] (.val (.bool (false))) := by
 refine jM Tryz.func284 rfl cb284 rfl ?_
 show uY _ _ _ _ ⟨[(0, (fV a))], []⟩
 refine jA <| kx [] [] (zM <| zZ) ?_
 refine jA <| kx [(2, (vb (((a : Nat) : Int) != ((a : Nat) : Int))))] [] (zM <| zM <| zE eS <| zM <| zZ) ?_
 refine jF ⟨_, (.tmp (d := (.val (.bool ((((a : Nat) : Int) != ((a : Nat) : Int)))))) rfl .nil), ?_⟩
 simp [retD]
theorem t_cmp_uint32 (a b : Nat) : kH Tryz.prog 277 [(.val (.int .u32 (((a : Nat) : Int)))), (.val (.int .u32 (((b : Nat) : Int))))] (.val (.int .i64 ((xR ((a : Nat) : Int) ((b : Nat) : Int))))) := by
 refine jM Tryz.func277 rfl cb277 rfl ?_
 show uY _ _ _ _ ⟨[(0, (fV a)), (1, (fV b))], []⟩
 refine jA <| kx [] [] (zM <| zZ) ?_
 refine jA <| kx [(5, (vb false))] [] (zM <| zE (kB (t_isnan_uint32 a)) <| zM <| zZ) ?_
 refine jA <| kx [(6, (vb false))] [] (zM <| zE (kB (t_isnan_uint32 b)) <| zM <| zZ) ?_
 refine jA <| jA <| kx [(11, (vb false))] [] (zM <| zZ) ?_
 refine jT ?_
 refine jB <| jA <| jA <| kx [(13, (vb false))] [] (zM <| zZ) ?_
 refine jT ?_
 refine jB <| jA <| jA <| kx [(16, (vb (decide (((a : Nat) : Int) < ((b : Nat) : Int)))))] [] (zM <| zM <| zE qY <| zZ) ?_
 refine jO rfl (fun h1 => ?_) (fun h1 => ?_)
 ·replace h1 := of_decide_eq_true h1
  refine jA <| kx [(4, (vi (-1)))] [] (zM <| zZ) ?_
  refine jF ⟨_, (.tmp (d := (.val (.int .i64 (-1)))) rfl .nil), ?_⟩
  rw [show xR ((a : Nat) : Int) ((b : Nat) : Int) = -1 from if_pos h1]; rfl
 ·replace h1 := of_decide_eq_false h1
  refine jB <| jA <| jA <| kx [(19, (vb (decide (((b : Nat) : Int) < ((a : Nat) : Int)))))] [] (zM <| zM <| zE yZ <| zZ) ?_
  refine jO rfl (fun h2 => ?_) (fun h2 => ?_)
  ·replace h2 := of_decide_eq_true h2
   refine jA <| kx [(4, (kD 1))] [] (zM <| zZ) ?_
   refine jF ⟨_, (.tmp (d := (.val (.int .i64 (1)))) rfl .nil), ?_⟩
   rw [aK h2]; rfl
  ·replace h2 := of_decide_eq_false h2
   refine jB <| jA <| kx [(4, (kD 0))] [] (zM <| zZ) ?_
   refine jF ⟨_, (.tmp (d := (.val (.int .i64 (0)))) rfl .nil), ?_⟩
   rw [cmpI_eq h1 h2]; rfl
theorem dR (neg : Bool) (l : List Nat) (hd : Dig l) (hb : l.length ≤ 17592186044416) : kH Tryz.prog 246 [(.val (.bool (neg))), (.sl 181 1 (List.map jC l))] (jV (yD neg (val l))) := by
 refine jM Tryz.func246 rfl cb246 rfl ?_
 show uY _ _ _ _ ⟨[(0, (vb neg)), (1, (vl 181 1 jC l))], []⟩
 refine jA <| kx [(4, (.ref 0 0))] [(0, some (bx (jV (jI.mk false []))))] (zN (uK 0 hH hM) <| zZ) ?_
 refine jA <| kx [(1, (vl 181 1 jC (ofNat (val l))))] [] (zM <| zE (kB (t_trim l (by assumption) (by omega))) <| zM <| zZ) ?_
 refine jA <| jA <| kx [(9, (vb ((((ofNat (val l)).length : Nat) : Int) == 0)))] [] (zM <| zE (nE kY (L := (ofNat (val l)))) <| zE xK <| zZ) ?_
 refine jO rfl (fun h1 => ?_) (fun h1 => ?_)
 ·replace h1 := eq_of_beq h1
  refine jA <| kx [] [(0, some (bx (jV (jI.mk false []))))] (zE (oBd pl36 hH hM) <| zT (qG kK) <| zZ) ?_
  refine jF ⟨_, (qS (cs := (bx (jV (jI.mk false [])))) (d := (jV (jI.mk false []))) rfl rfl kK rfl rfl .nil), ?_⟩
  rw [mkI_zero h1]; rfl
 ·replace h1 := ne_of_beq_false h1
  refine jB <| jA <| kx [] [(0, some (bx (jV (jI.mk neg (ofNat (val l))))))] (zM <| zM <| zE (oBd pl36 hH hM) <| zT (qG kK) <| zZ) ?_
  refine jF ⟨_, (qS (cs := (bx (jV (jI.mk neg (ofNat (val l)))))) (d := (jV (jI.mk neg (ofNat (val l))))) rfl rfl kK rfl rfl .nil), ?_⟩
  rw [mkI_pos h1]; rfl
theorem t_word (l : List Nat) (hd : Dig l) : kH Tryz.prog 245 [(.sl 181 1 (List.map jC l))] (.tup [(.val (.int .u64 ((((gH l) : Nat) : Int)))), (.val (.bool ((mS l))))]) := by
 refine jM Tryz.func245 rfl cb245 rfl ?_
 show uY _ _ _ _ ⟨[(0, (vl 181 1 jC l))], []⟩
 refine jA <| kx [(2, (gW 0)), (3, (vb false))] [] (zM <| zM <| zZ) ?_
 refine jA <| jA <| kx [(9, (vb (decide (2 < ((l.length : Nat) : Int)))))] [] (zM <| zE (nE kY) <| zE yZ <| zZ) ?_
 refine jO (b := decide (2 < ((l.length : Nat) : Int))) rfl (fun h1 => ?_) (fun h1 => ?_)
 ·replace h1 := of_decide_eq_true h1
  refine jA <| kx [(2, (gW 0)), (3, (vb false))] [] (zM <| zM <| zZ) ?_
  refine jF ⟨_, (.tmp (d := (.val (.int .u64 (0)))) rfl (.tmp (d := (.val (.bool (false)))) rfl .nil)), ?_⟩
  rw [show gH l = 0 from if_neg (by omega), show mS l = false from decide_eq_false (by omega)]; rfl
 ·replace h1 := of_decide_eq_false h1
  have h2 : l.length ≤ 2 := by omega
  refine jB <| jA <| kx [(4, (.ref 0 0))] [(0, some (bx (.val (.int .u64 (0)))))] (zN (uK 0 ze277 zo277) <| zT (qG fQ) <| zZ) ?_
  refine jA <| pwp_backL backs cb229 rfl 5 jC l 0 (fun n => ⟨[(2, (gW 0)), (3, (vb false)), (4, (.ref 0 0))], [(0, some (bx (.val (.int .u64 (((n : Nat) : Int))))))]⟩) (fun (j : Nat) n => n = val (l.drop (l.length - j))) 0 rfl rfl rfl rfl rfl rfl rfl rfl rfl rfl rfl rfl (fun _ => rfl) (fun _ => rfl) wk (by simp [val]) (by omega) ?_ ?_
  ·rintro rl j n hj hn
   have hw := word_bound hd hj h2
   rw [← hn] at hw
   have hg := hd.getD (l.length - 1 - j)
   refine kx [(6, (fV (l.getD (l.length - 1 - j) 0)))] [] (zM <| zZ) ?_
   refine jE <| kx [] [(0, some (bx (.val (.int .u64 (((((n * 1000000000) + (l.getD (l.length - 1 - j) 0)) : Nat) : Int))))))] (zR (qR fQ) <| zE (oMl (n * 1000000000)) <| zM <| zE (mV yY yR (l.getD (l.length - 1 - j) 0)) <| zE (uE ((n * 1000000000) + (l.getD (l.length - 1 - j) 0))) <| zT (qG fQ) <| zZ) ?_
   exact ⟨n * 1000000000 + l.getD (l.length - 1 - j) 0, wk, (by dsimp only; rw [aA l j hj, ← hn]; omega)⟩
  ·rintro n hn
   refine jA <| kx [(2, (gW n)), (3, (vb true))] [] (zR (qR fQ) <| zM <| zM <| zZ) ?_
   refine jF ⟨_, (.tmp (d := (.val (.int .u64 (((n : Nat) : Int))))) rfl (.tmp (d := (.val (.bool (true)))) rfl .nil)), ?_⟩
   rw [show gH l = n by rw [hn, Nat.sub_self, List.drop_zero]; exact if_pos h2, show mS l = true from decide_eq_true h2]; rfl
theorem t_compare (a b : List Nat) (ha : hC a) (hb : hC b) (hla : a.length ≤ 17592186044416) : kH Tryz.prog 244 [(.sl 181 1 (List.map jC a)), (.sl 181 1 (List.map jC b))] (.val (.int .i64 ((xR ((val a : Nat) : Int) ((val b : Nat) : Int))))) := by
 refine jM Tryz.func244 rfl cb244 rfl ?_
 show uY _ _ _ _ ⟨[(0, (vl 181 1 jC a)), (1, (vl 181 1 jC b))], []⟩
 refine jA <| kx [(3, (.ref 0 0)), (4, (.ref 1 0))] [(0, some (bx (.sl 181 1 (List.map jC b)))), (1, some (bx (.val (.int .i64 (0)))))] (zN (vD 0) <| zN (uK 1 ze3 zo3) <| zZ) ?_
 refine jA <| jA <| kx [(11, (vb (((a.length : Nat) : Int) != ((b.length : Nat) : Int))))] [] (zM <| zE (nE kY) <| zR (qR gF) <| zE (nE kY) <| zE eS <| zZ) ?_
 refine jO rfl (fun h1 => ?_) (fun h1 => ?_)
 ·replace h1 := bne_iff_ne.1 h1
  refine jA <| kx [] [(1, some (bx (.val (.int .i64 ((xR ((a.length : Nat) : Int) ((b.length : Nat) : Int)))))))] (zM <| zE (nE kY) <| zR (qR gF) <| zE (nE kY) <| zE (kB (t_cmp_int ((a.length : Nat) : Int) ((b.length : Nat) : Int))) <| zT (qG qP) <| zZ) ?_
  refine jF ⟨_, (aI (cs := (bx (.val (.int .i64 ((xR ((a.length : Nat) : Int) ((b.length : Nat) : Int))))))) (d := (.val (.int .i64 ((xR ((a.length : Nat) : Int) ((b.length : Nat) : Int)))))) rfl rfl qP rfl rfl .nil), ?_⟩
  rw [← cmpI_len ha hb h1]; rfl
 ·replace h1 := bne_eq_false_iff_eq.1 h1
  have hl : a.length = b.length := by omega
  refine jB <| jA <| pwp_backL backs cb229 rfl 5 jC a 0 (fun _ => ⟨[(3, (.ref 0 0)), (4, (.ref 1 0))], [(0, some (bx (.sl 181 1 (List.map jC b)))), (1, some (bx (.val (.int .i64 (0)))))]⟩) (fun (j : Nat) _ => val (a.drop (a.length - j)) = val (b.drop (a.length - j))) () rfl rfl rfl rfl rfl rfl rfl rfl rfl rfl rfl rfl (fun _ => rfl) (fun _ => rfl) wk (by rw [Nat.sub_zero, List.drop_length, hl, List.drop_length]) (by omega) ?_ ?_
  ·rintro rl j ⟨⟩ hj he
   refine jA <| kx [(5, (kD (a.length - 1 - j)))] [] (zM <| zZ) ?_
   refine kx [(6, (fV (a.getD (a.length - 1 - j) 0)))] [] (zM <| zZ) ?_
   refine jE <| jA <| kx [(26, (vb ((((a.getD (a.length - 1 - j) 0) : Nat) : Int) != (((b.getD (a.length - 1 - j) 0) : Nat) : Int))))] [] (zM <| zR (qR gF) <| zM <| zE (aC kY (a.length - 1 - j) (0 : Nat)) <| zE (xN uX) <| zE eS <| zZ) ?_
   refine jO rfl (fun h2 => ?_) (fun h2 => ?_)
   ·replace h2 := bne_iff_ne.1 h2
    refine jA <| kx [] [(1, some (bx (.val (.int .i64 ((xR (((a.getD (a.length - 1 - j) 0) : Nat) : Int) (((b.getD (a.length - 1 - j) 0) : Nat) : Int)))))))] (zM <| zR (qR gF) <| zM <| zE (aC kY (a.length - 1 - j) (0 : Nat)) <| zE (xN uX) <| zE (kB (t_cmp_uint32 (a.getD (a.length - 1 - j) 0) (b.getD (a.length - 1 - j) 0))) <| zT (qG qP) <| zZ) ?_
    refine jF ⟨⟨[(4, (.ref 1 0))], [(1, some (bx (.val (.int .i64 ((xR (((a.getD (a.length - 1 - j) 0) : Nat) : Int) (((b.getD (a.length - 1 - j) 0) : Nat) : Int)))))))]⟩, wk, keys_of rfl, ⟨_, (aI (cs := (bx (.val (.int .i64 ((xR (((a.getD (a.length - 1 - j) 0) : Nat) : Int) (((b.getD (a.length - 1 - j) 0) : Nat) : Int))))))) (d := (.val (.int .i64 ((xR (((a.getD (a.length - 1 - j) 0) : Nat) : Int) (((b.getD (a.length - 1 - j) 0) : Nat) : Int)))))) rfl rfl qP rfl rfl .nil), ?_⟩⟩
    rw [← cmpI_top ha.1 hb.1 hl hj he h2]; rfl
   ·replace h2 := bne_eq_false_iff_eq.1 h2
    refine jB ?_
    exact ⟨(), wk, (by dsimp only; have e1 := aA a j hj; have e2 := aA b j (by omega); rw [← hl] at e2; rw [e1, e2, he]; omega)⟩
  ·rintro ⟨⟩ he
   refine jA <| kx [] [(1, some (bx (.val (.int .i64 (0)))))] (zT (qG qP) <| zZ) ?_
   refine jF ⟨_, (aI (cs := (bx (.val (.int .i64 (0))))) (d := (.val (.int .i64 (0)))) rfl rfl qP rfl rfl .nil), ?_⟩
   rw [cmpI_same (by rw [Nat.sub_self, List.drop_zero, List.drop_zero] at he; exact he)]; rfl
theorem t_split (n : Nat) (hn : n < 18446744073709551616) : kH Tryz.prog 247 [(.val (.int .u64 (((n : Nat) : Int))))] (.sl 181 1 (List.map jC (ofNat n))) := by
 refine jM Tryz.func247 rfl cb247 rfl ?_
 show uY _ _ _ _ ⟨[(0, (gW n))], []⟩
 refine jA <| kx [] [] (zE (aX 181 1) <| zZ) ?_
 refine jA <| kx [(3, (.own 0 181 1 0))] [(0, some (bm jC []))] (zO 0 181 1 <| zZ) ?_
 refine jA <| jE <| uN (α := Nat × List Nat) (fun (m, g) => ⟨[(0, (gW m)), (3, (.own 0 181 1 g.length))], [(0, some (bm jC g))]⟩) (fun (m, g) => m ≤ n ∧ g ++ ofNat m = ofNat n) (fun (m, g) => m) (n, []) wk ⟨Nat.le_refl _, by rw [List.nil_append]⟩ ?_
 rintro ⟨m, g⟩ ⟨hm, hg⟩
 have hl := split_len hg hn
 refine jA <| jA <| kx [(5, (vb (decide (0 < ((m : Nat) : Int)))))] [] (zM <| zE yZ <| zZ) ?_
 refine jO (b := decide (0 < ((m : Nat) : Int))) rfl (fun h1 => ?_) (fun h1 => ?_)
 ·replace h1 := of_decide_eq_true h1
  refine jB <| jA <| jE <| kf [(3, (.own 0 181 1 ((g ++ [(m % 1000000000)]).length)))] [(0, some (bm jC (g ++ [(m % 1000000000)])))] (zM <| zM <| zE (oRe (m % 1000000000)) <| zE (mV nA nB (m % 1000000000)) <| zE (mC kY xZ gL) <| zA jC g [(m % 1000000000)] rfl kY xZ mF <| zM <| zF) ?_
  refine kx [(0, (gW (m / 1000000000)))] [] (zM <| zE (oQu (m / 1000000000)) <| zM <| zZ) ?_
  exact ⟨(m / 1000000000, g ++ [m % 1000000000]), wk, ⟨by omega, split_step hg h1⟩, (by first | omega | (dsimp only; omega))⟩
 ·replace h1 := of_decide_eq_false h1
  refine kJ <| jA <| kP (xY (t := 3) (k := 0) (es := List.map jC g) rfl rfl (vY _ _ (fun _ => rfl)) (xP _ _ rfl) (zB _ _ (fun _ => rfl) rfl)) ?_
  refine kx [(2, (vl 181 1 jC g))] [] (zM <| zM <| zZ) ?_
  refine jF ⟨_, (.tmp (d := (.sl 181 1 (List.map jC g))) rfl .nil), ?_⟩
  rw [split_end hg h1]; rfl
end Go.Proofs.YtapjldagikfcmaaGreat
namespace Go.Proofs.YtapjldagikfcmaaGreat
open Go.Fid
set_option maxRecDepth 4000
set_option linter.unusedVariables false
set_option linter.unusedSimpArgs false
theorem cb158 : callB Tryz.prog 158 = true := by kernel_rfl
theorem cb228 : callB Tryz.prog 228 = true := by kernel_rfl
theorem cb241 : callB Tryz.prog 241 = true := by kernel_rfl
theorem cb242 : callB Tryz.prog 242 = true := by kernel_rfl
theorem cb249 : callB Tryz.prog 249 = true := by kernel_rfl
theorem cb275 : callB Tryz.prog 275 = true := by kernel_rfl
theorem zQ : vN Tryz.prog 36 0 = some 0 := by kernel_rfl
theorem yB : vN Tryz.prog 36 1 = some 1 := by kernel_rfl
theorem dX : uJ Tryz.prog 4 = some (false, 1) := by kernel_rfl
theorem t_big (a : Nat) : kH Tryz.prog 242 [(.val (.int .u32 (((a : Nat) : Int))))] (.val (.bool ((decide (1000000000 ≤ ((a : Nat) : Int)))))) := by
 refine jM Tryz.func242 rfl cb242 rfl ?_
 show uY _ _ _ _ ⟨[(0, (fV a))], []⟩
 refine jA <| kx [] [] (zM <| zZ) ?_
 refine jA <| kx [(2, (vb (decide (1000000000 ≤ ((a : Nat) : Int)))))] [] (zM <| zE oGe <| zM <| zZ) ?_
 refine jF ⟨_, (.tmp (d := (.val (.bool (decide (1000000000 ≤ ((a : Nat) : Int)))))) rfl .nil), ?_⟩
 rfl
theorem t_index (l : List Nat) (hb : l.length ≤ 17592186044416) : kH Tryz.prog 275 [(.sl 181 1 (List.map jC l)), (.val (.func (.func 242) #[] #[]))] (.val (.int .i64 ((yG l)))) := by
 refine jM Tryz.func275 rfl cb275 rfl ?_
 show uY _ _ _ _ ⟨[(0, (vl 181 1 jC l)), (1, (.d (.val (.func (.func 242) #[] #[]))))], []⟩
 refine jA <| kx [] [] (zM <| zZ) ?_
 refine jA <| jA <| kx [(7, (kD l.length)), (8, (kD 0))] [] (zM <| zE (nE kY) <| zM <| zZ) ?_
 refine jE <| uN (α := Nat) (fun i => ⟨[(0, (vl 181 1 jC l)), (1, (.d (.val (.func (.func 242) #[] #[])))), (7, (kD l.length)), (8, (kD i))], []⟩) (fun i => i ≤ l.length ∧ Dig (l.take i)) (fun i => l.length - i) 0 wk ⟨Nat.zero_le _, nG⟩ ?_
 rintro i ⟨hi, hd⟩
 refine jA <| kx [(9, (vb (decide (((i : Nat) : Int) < ((l.length : Nat) : Int)))))] [] (zE qY <| zZ) ?_
 refine jA <| jO rfl (fun h1 => ?_) (fun h1 => ?_)
 ·replace h1 := of_decide_eq_true h1
  refine jB <| jA <| jE <| jA <| kx [(5, (kD i))] [] (zM <| zM <| zZ) ?_
  refine jA <| kx [(16, (vb (decide (1000000000 ≤ (((l.getD i 0) : Nat) : Int)))))] [] (zM <| zM <| zM <| zE (aC kY i (0 : Nat)) <| zE (xN uX) <| zE (kB (t_big (l.getD i 0))) <| zZ) ?_
  refine jO rfl (fun h2 => ?_) (fun h2 => ?_)
  ·replace h2 := of_decide_eq_true h2
   refine jA <| kx [(4, (kD i))] [] (zM <| zM <| zZ) ?_
   refine jF ⟨_, (.tmp (d := (.val (.int .i64 (((i : Nat) : Int))))) rfl .nil), ?_⟩
   rw [firstBig_at (by omega) hd (by omega)]; rfl
  ·replace h2 := of_decide_eq_false h2
   refine jB <| kx [(8, (kD (i + 1)))] [] (zE (uE (i + 1)) <| zM <| zZ) ?_
   exact ⟨(i + 1), wk, ⟨by omega, dig_take_succ (by omega) hd (by omega)⟩, (by omega)⟩
 ·replace h1 := of_decide_eq_false h1
  refine kJ <| jA <| kx [(4, (vi (-1)))] [] (zM <| zZ) ?_
  refine jF ⟨_, (.tmp (d := (.val (.int .i64 (-1)))) rfl .nil), ?_⟩
  rw [bK (by rw [List.take_of_length_le (by omega)] at hd; exact hd)]; rfl
theorem t_contains (l : List Nat) (hb : l.length ≤ 17592186044416) : kH Tryz.prog 241 [(.sl 181 1 (List.map jC l)), (.val (.func (.func 242) #[] #[]))] (.val (.bool ((decide (0 ≤ yG l))))) := by
 refine jM Tryz.func241 rfl cb241 rfl ?_
 show uY _ _ _ _ ⟨[(0, (vl 181 1 jC l)), (1, (.d (.val (.func (.func 242) #[] #[]))))], []⟩
 refine jA <| kx [] [] (zM <| zZ) ?_
 refine jA <| kx [(4, (vb (decide (0 ≤ (yG l)))))] [] (zM <| zM <| zE (kB (t_index l (by omega))) <| zE oGe <| zM <| zZ) ?_
 refine jF ⟨_, (.tmp (d := (.val (.bool (decide (0 ≤ (yG l)))))) rfl .nil), ?_⟩
 rfl
theorem t_valid (x : jI) (hb : x.gs.length ≤ 17592186044416) : kH Tryz.prog 158 [(jV x)] (.val (.bool ((vO x)))) := by
 refine jM Tryz.func158 rfl cb158 rfl ?_
 show uY _ _ _ _ ⟨[(0, (.d (jV x)))], []⟩
 refine jA <| kx [(1, (.ref 0 0))] [(0, some (bx (jV x)))] (zN (vD 0) <| zM <| zZ) ?_
 refine jA <| kx [(3, (kD x.gs.length))] [] (zE (kE yB) <| zR (qR gF) <| zE (nE kY) <| zM <| zZ) ?_
 refine jA <| jA <| kx [(8, (vb (((x.gs.length : Nat) : Int) == 0)))] [] (zM <| zE xK <| zZ) ?_
 refine jO (b := (((x.gs.length : Nat) : Int) == 0)) rfl (fun h1 => ?_) (fun h1 => ?_)
 ·replace h1 := eq_of_beq h1
  refine jA <| kx [(2, (vb (!x.neg)))] [] (zE (kE zQ) <| zR (qR dX) <| zE oNt <| zM <| zZ) ?_
  refine jF ⟨_, (.tmp (d := (.val (.bool (!x.neg)))) rfl .nil), ?_⟩
  rw [show vO x = !x.neg from if_pos h1]; rfl
 ·replace h1 := ne_of_beq_false h1
  refine jB <| jA <| kx [(2, (vb (((((x.gs.getD (x.gs.length - 1) 0) : Nat) : Int) != 0) && !(decide (0 ≤ yG x.gs)))))] [] ?_ ?_
  ·refine zE (kE yB) <| zR (qR gF) <| zM <| zE (oSb (x.gs.length - 1)) <| zE (aC kY (x.gs.length - 1) (0 : Nat)) <| zE (xN uX) <| zE eS <| zE (oV (vb ((((x.gs.getD (x.gs.length - 1) 0) : Nat) : Int) != 0)) (uS (by kernel_rfl))) <| ?_
   rcases hb2 : ((((x.gs.getD (x.gs.length - 1) 0) : Nat) : Int) != 0) with _ | _
   ·replace hb2 := bne_eq_false_iff_eq.1 hb2
    exact zK <| zK <| zK <| zK <| zE zU <| zM <| zZ
   ·replace hb2 := bne_iff_ne.1 hb2
    exact zE (kE yB) <| zR (qR gF) <| zE (kB (t_contains x.gs (by omega))) <| zE oNt <| zE oPa <| zM <| zZ
  refine jF ⟨_, (.tmp (d := (.val (.bool ((((((x.gs.getD (x.gs.length - 1) 0) : Nat) : Int) != 0) && !(decide (0 ≤ yG x.gs))))))) rfl .nil), ?_⟩
  rw [show vO x = _ from if_neg h1]; rfl
theorem nM (x : jI) (hb : x.gs.length ≤ 17592186044416) : kH Tryz.prog 228 [(jV x)] (.sl 181 1 (List.map jC (kM x))) := by
 refine jM Tryz.func228 rfl cb228 rfl ?_
 show uY _ _ _ _ ⟨[(0, (.d (jV x)))], []⟩
 refine jA <| kx [(1, (.ref 0 0))] [(0, some (bx (jV x)))] (zN (vD 0) <| zE (aX 181 1) <| zZ) ?_
 refine jA <| jA <| kx [(5, (vb (!(vO x))))] [] (zR (kC kK) <| zE (kB (t_valid x (by omega))) <| zE oNt <| zZ) ?_
 refine jO (b := !(vO x)) rfl (fun h1 => ?_) (fun h1 => ?_)
 ·refine jA <| kx [(2, (vl 181 1 jC []))] [] (zE (aX 181 1) <| zZ) ?_
  refine jF ⟨_, (.tmp (d := (.sl 181 1 (List.map jC []))) rfl .nil), ?_⟩
  rw [show kM x = [] from if_neg (by simpa using h1)]; rfl
 ·refine jB <| jA <| kx [(2, (vl 181 1 jC x.gs))] [] (zE (kE yB) <| zR (qR gF) <| zM <| zZ) ?_
  refine jF ⟨_, (.tmp (d := (.sl 181 1 (List.map jC x.gs))) rfl .nil), ?_⟩
  rw [show kM x = x.gs from if_pos (by simpa using h1)]; rfl
theorem t_clone (l : List Nat) (hb : l.length ≤ 17592186044416) : kH Tryz.prog 249 [(.sl 181 1 (List.map jC l))] (.sl 181 1 (List.map jC l)) := by
 refine jM Tryz.func249 rfl cb249 rfl ?_
 show uY _ _ _ _ ⟨[(0, (vl 181 1 jC l))], []⟩
 refine jA <| kx [] [] (zE (aX 181 1) <| zZ) ?_
 refine jA <| jA <| pwp_nilq rfl rfl rfl rfl rfl rfl kY rfl rfl rfl (fun nb hnb => ?_)
 refine jO (b := nb) rfl (fun h1 => ?_) (fun h1 => ?_)
 ·refine jA <| kx [(2, (vl 181 1 jC []))] [] (zE (aX 181 1) <| zZ) ?_
  refine jF ⟨_, (.tmp (d := (.sl 181 1 (List.map jC []))) rfl .nil), ?_⟩
  rw [List.map_eq_nil_iff.1 (hnb h1)]; rfl
 ·refine jB <| jA <| kf [(2, (.own 0 181 1 (([] ++ l).length)))] [(0, some (bm jC ([] ++ l)))] (zN (oBo 0 kY xZ gL) <| zM <| zA jC [] l rfl kY xZ mF <| zM <| zF) ?_
  refine kP (xY (t := 2) (k := 0) (es := List.map jC ([] ++ l)) rfl rfl (vY _ _ (fun _ => rfl)) (xP _ _ rfl) (zB _ _ (fun _ => rfl) rfl)) ?_
  refine jF ⟨_, (.tmp (d := (.sl 181 1 (List.map jC ([] ++ l)))) rfl .nil), ?_⟩
  rfl
end Go.Proofs.YtapjldagikfcmaaGreat
