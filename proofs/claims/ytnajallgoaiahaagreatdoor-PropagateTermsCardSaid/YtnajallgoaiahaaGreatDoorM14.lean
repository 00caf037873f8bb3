/- Part 14 of a proof: rules, plain facts, and functions walked. -/
import Derived.Test.YtnajallgoaiahaaGreatDoorM12
import Derived.Test.YtnajallgoaiahaaGreatDoorM8
import Derived.Test.YtnajallgoaiahaaGreatDoorM13
import Derived.Test.YtnajallgoaiahaaGreatDoorChecked
import Derived.RangeFuncBox
import Derived.Shelf.Abstract
import Derived.OwnWalkIn
import Derived.TacticsInMore
import Derived.LoopNIn
import Derived.LoopIn
import Derived.Test.YtnajallgoaiahaaGreatDoorM10
namespace Go.Proofs.YtnajallgoaiahaaGreatDoor
open Go.Fid
set_option maxRecDepth 4000
set_option linter.unusedVariables false
set_option linter.unusedSimpArgs false
theorem gW : xW Tryz.prog 140 = some 4 := by kernel_rfl
theorem cb226 : callB Tryz.prog 226 = true := by kernel_rfl
theorem cb251 : callB Tryz.prog 251 = true := by kernel_rfl
theorem cb254 : callB Tryz.prog 254 = true := by kernel_rfl
theorem cb255 : callB Tryz.prog 255 = true := by kernel_rfl
theorem cb264 : callB Tryz.prog 264 = true := by kernel_rfl
theorem kM : uZ Tryz.prog 41 = some (140, 1) := by kernel_rfl
theorem gE : intB Tryz.prog 140 = some .u32 := by kernel_rfl
theorem yF : intB Tryz.prog 170 = some .u64 := by kernel_rfl
theorem qU : qL Tryz.prog 140 = some (false, 1) := by kernel_rfl
theorem yD : (Tryz.prog.underlying 140).isSome = true := by kernel_rfl
theorem gP : (Tryz.prog.underlying 170).isSome = true := by kernel_rfl
theorem vL : xH Tryz.prog 140 = some [.int .u32 0] := by kernel_rfl
theorem xZ : eC [.int .u32 0] [.val (.int .u32 0)] := by simp [eC, Value.oneCell']
theorem t_at (l : List Nat) (i : Nat) : jT Tryz.prog 264 [(.sl 140 1 (List.map jC l)), (.val (.int .i64 (((i : Nat) : Int))))] (.val (.int .u32 ((((l.getD i 0) : Nat) : Int)))) := by
 refine jJ Tryz.func264 rfl cb264 rfl ?_
 show qR _ _ _ _ ⟨[(0, (vl 140 1 jC l)), (1, (jN i))], []⟩
 refine jB<|kx [] [] (zM<|zZ) ?_
 refine jB<|jB<|kx [(8, (vb (decide (((i : Nat) : Int) < ((l.length : Nat) : Int)))))] [] (zM<|zM<|zE (vX kM)<|zE vZ<|zZ) ?_
 refine jF rfl (fun h1 => ?_) (fun h1 => ?_)
 ·replace h1 := uH h1
  refine jB<|kx [(4, (fE (l.getD i 0)))] [] (zM<|zM<|zE (zU kM i (0 : Nat))<|zE (xI qU)<|zM<|zZ) ?_
  refine jE ⟨_, (.tmp (d := (.val (.int .u32 ((((l.getD i 0) : Nat) : Int))))) rfl .nil), ?_⟩
  rfl
 ·replace h1 := vB h1
  refine jD<|jB<|kx [(4, (fE 0))] [] (zM<|zZ) ?_
  refine jE ⟨_, (.tmp (d := (.val (.int .u32 (0)))) rfl .nil), ?_⟩
  rw [show l.getD i 0 = 0 from getD_out (by omega)]; rfl
theorem t_trim (l0 : List Nat) (hd : Dig l0) (hb : l0.length ≤ 17592186044416) : jT Tryz.prog 251 [(.sl 140 1 (List.map jC l0))] (.sl 140 1 (List.map jC (ofNat (val l0)))) := by
 refine jJ Tryz.func251 rfl cb251 rfl ?_
 show qR _ _ _ _ ⟨[(0, (vl 140 1 jC l0))], []⟩
 refine jB<|kx [] [] (zE (mP 140 1)<|zZ) ?_
 refine jB<|jG<|kI (α := List Nat) (fun l => ⟨[(0, (vl 140 1 jC l))], []⟩) (fun l => Dig l ∧ val l = val l0 ∧ l.length ≤ l0.length) (fun l => l.length) l0 wk ⟨hd, rfl, Nat.le_refl _⟩ ?_
 rintro l ⟨hl, hv, hle⟩
 refine jB<|jB<|kx [(14, (vb (decide (0 < ((l.length : Nat) : Int)) && ((((l.getD (l.length - 1) 0) : Nat) : Int) == 0))))] [] ?_ ?_
 ·refine zM<|zE (vX kM)<|zE mO<|zE (oV (vb (decide (0 < ((l.length : Nat) : Int)))) (qH (by kernel_rfl)))<|?_
  rcases hb1 : (decide (0 < ((l.length : Nat) : Int))) with _ | _
  ·replace hb1 := vB hb1
   exact zK<|zK<|zK<|zK<|zK<|zK<|zK<|zE yM<|zZ
  ·replace hb1 := uH hb1
   exact zM<|zM<|zE (vX kM)<|zE (oSb (l.length - 1))<|zE (zU kM (l.length - 1) (0 : Nat))<|zE (xI qU)<|zE gA<|zE aJ<|zZ
 refine jF rfl (fun h2 => ?_) (fun h2 => ?_)
 ·obtain ⟨hp, _⟩ := trim_cond h2
  refine jD<|jG<|kx [(0, (vl 140 1 jC (List.take (l.length - 1) l)))] [] (zM<|zM<|zE (vX kM)<|zE (oSb (l.length - 1))<|zE (e_slc (l := 0) (h := (l.length - 1)) (kl := .i64) (kh := .i64) (es' := List.map jC (List.take (l.length - 1) l)) (by exact rfl) kM (by exact rfl) (by exact rfl) (by exact rfl) (Nat.zero_le _) (by simp only [List.length_map]; omega) (by rw [List.drop_zero, List.map_take]))<|zM<|zZ) ?_
  exact ⟨(l.take (l.length - 1)), wk, (trim_step hl hv hle h2), (trim_less h2)⟩
 ·refine kC<|jB<|kx [(2, (vl 140 1 jC l))] [] (zM<|zM<|zZ) ?_
  refine jE ⟨_, (.tmp (d := (.sl 140 1 (List.map jC l))) rfl .nil), ?_⟩
  rw [trim_end hl hv h2]; rfl
theorem t_plus (a b : List Nat) (hda : Dig a) (hdb : Dig b) (hla : a.length ≤ 8796093022208) (hlb : b.length ≤ 8796093022208) : jT Tryz.prog 254 [(.sl 140 1 (List.map jC a)), (.sl 140 1 (List.map jC b))] (.sl 140 1 (List.map jC (ofNat (val a + val b)))) := by
 refine jJ Tryz.func254 rfl cb254 rfl ?_
 show qR _ _ _ _ ⟨[(0, (vl 140 1 jC a)), (1, (vl 140 1 jC b))], []⟩
 refine jB<|kx [] [] (zE (mP 140 1)<|zZ) ?_
 refine jB<|kx [(5, (.own 0 140 1 ((max a.length b.length) + 1)))] [(0, some (bm jC (List.replicate ((max a.length b.length) + 1) 0)))] (zM<|zE (vX kM)<|zM<|zE (vX kM)<|zE (oMx (max a.length b.length))<|zE (vG ((max a.length b.length) + 1))<|zN (oMk 0 jC (0 : Nat) ((max a.length b.length) + 1) ((max a.length b.length) + 1) kM vL xZ gW)<|zM<|zZ) ?_
 refine jB<|kx [(6, (fE 0))] [] (zM<|zZ) ?_
 refine jB<|jB<|kx [(17, (jN ((max a.length b.length) + 1))), (18, (jN 0))] [] (zM<|zE (oLo kM)<|zM<|zZ) ?_
 refine jG<|kI (α := Nat × List Nat × Nat) (fun (i, out, c) => ⟨[(0, (vl 140 1 jC a)), (1, (vl 140 1 jC b)), (5, (.own 0 140 1 ((max a.length b.length) + 1))), (6, (fE c)), (17, (jN ((max a.length b.length) + 1))), (18, (jN i))], [(0, some (bm jC out))]⟩) (fun (i, out, c) => out.length = max a.length b.length + 1 ∧ Dig out ∧ i ≤ max a.length b.length + 1 ∧ c ≤ 1 ∧ val (out.take i) + pw i * c = val (a.take i) + val (b.take i)) (fun (i, out, c) => max a.length b.length + 1 - i) (0, List.replicate (max a.length b.length + 1) 0, 0) wk ⟨by simp, xU _, Nat.zero_le _, Nat.zero_le _, by simp [val]⟩ ?_
 rintro ⟨i, out, c⟩ ⟨qZ, hdo, hi, hc, hv⟩
 have hai := hda.getD i
 have hbi := hdb.getD i
 refine jB<|kx [(19, (vb (decide (((i : Nat) : Int) < ((((max a.length b.length) + 1) : Nat) : Int)))))] [] (zE vZ<|zZ) ?_
 refine jB<|jF rfl (fun h1 => ?_) (fun h1 => ?_)
 ·replace h1 := uH h1
  refine jD<|jB<|jG<|jB<|kx [(7, (jN i))] [] (zM<|zM<|zZ) ?_
  refine jB<|kx [(8, (fE (((a.getD i 0) + (b.getD i 0)) + c)))] [] (zM<|zM<|zE (jZ (t_at a i))<|zM<|zM<|zE (jZ (t_at b i))<|zE (vG ((a.getD i 0) + (b.getD i 0)))<|zM<|zE (vG (((a.getD i 0) + (b.getD i 0)) + c))<|zM<|zZ) ?_
  refine jB<|kx [(6, (fE 0))] [] (zM<|zZ) ?_
  refine jB<|jB<|kx [(31, (vb (decide (1000000000 ≤ (((((a.getD i 0) + (b.getD i 0)) + c) : Nat) : Int)))))] [] (zM<|zE oGe<|zZ) ?_
  refine jF rfl (fun h2 => ?_) (fun h2 => ?_)
  ·replace h2 := uH h2
   refine kx [(6, (fE 1)), (8, (fE ((((a.getD i 0) + (b.getD i 0)) + c) - 1000000000)))] [] (zM<|zE (oSb ((((a.getD i 0) + (b.getD i 0)) + c) - 1000000000))<|zM<|zM<|zZ) ?_
   refine kx [] [(0, some (bm jC (out.set i ((((a.getD i 0) + (b.getD i 0)) + c) - 1000000000))))] (zM<|zM<|zM<|zE (fJ kM i)<|zT (oSp qU i ((((a.getD i 0) + (b.getD i 0)) + c) - 1000000000))<|zZ) ?_
   refine kx [(18, (jN (i + 1)))] [] (zE (vG (i + 1))<|zM<|zZ) ?_
   exact ⟨(i + 1, out.set i (a.getD i 0 + b.getD i 0 + c - 1000000000), 1), wk, (by obtain ⟨q1, q2, q3⟩ := plus_step (s := a.getD i 0 + b.getD i 0 + c - 1000000000) (c' := 1) qZ hdo (by omega) hv (by omega) (by omega); exact ⟨q1, q2, by omega, by omega, q3⟩), (by first|omega|(dsimp only;omega))⟩
  ·replace h2 := vB h2
   refine jD<|kx [] [(0, some (bm jC (out.set i (((a.getD i 0) + (b.getD i 0)) + c))))] (zM<|zM<|zM<|zE (fJ kM i)<|zT (oSp qU i (((a.getD i 0) + (b.getD i 0)) + c))<|zZ) ?_
   refine kx [(18, (jN (i + 1)))] [] (zE (vG (i + 1))<|zM<|zZ) ?_
   exact ⟨(i + 1, out.set i (a.getD i 0 + b.getD i 0 + c), 0), wk, (by obtain ⟨q1, q2, q3⟩ := plus_step (s := a.getD i 0 + b.getD i 0 + c) (c' := 0) qZ hdo (by omega) hv (by omega) (by omega); exact ⟨q1, q2, by omega, by omega, q3⟩), (by first|omega|(dsimp only;omega))⟩
 ·replace h1 := vB h1
  have hie : i = max a.length b.length + 1 := by omega
  rw [hie] at hv
  refine kC<|jB<|kH (vK (t := 5) (k := 0) (es := List.map jC out) rfl rfl (uI _ _ (fun _ => rfl)) (uG _ _ qZ) (vE _ _ (fun _ => rfl) qZ)) ?_
  refine kx [(4, (vl 140 1 jC (ofNat (val out))))] [] (zM<|zE (jZ (t_trim out (by assumption) (by omega)))<|zM<|zZ) ?_
  refine jE ⟨_, (.tmp (d := (.sl 140 1 (List.map jC (ofNat (val out))))) rfl .nil), ?_⟩
  rw [plus_end hda hdb qZ hv]; rfl
theorem t_minus (a b : List Nat) (hda : Dig a) (hdb : Dig b) (hba : val b ≤ val a) (hla : a.length ≤ 8796093022208) : jT Tryz.prog 255 [(.sl 140 1 (List.map jC a)), (.sl 140 1 (List.map jC b))] (.sl 140 1 (List.map jC (ofNat (val a - val b)))) := by
 refine jJ Tryz.func255 rfl cb255 rfl ?_
 show qR _ _ _ _ ⟨[(0, (vl 140 1 jC a)), (1, (vl 140 1 jC b))], []⟩
 refine jB<|kx [] [] (zE (mP 140 1)<|zZ) ?_
 refine jB<|kx [(5, (.own 0 140 1 a.length))] [(0, some (bm jC (List.replicate a.length 0)))] (zM<|zE (vX kM)<|zN (oMk 0 jC (0 : Nat) a.length a.length kM vL xZ gW)<|zM<|zZ) ?_
 refine jB<|kx [(6, (fE 0))] [] (zM<|zZ) ?_
 refine jB<|jB<|kx [(13, (jN a.length)), (14, (jN 0))] [] (zM<|zE (oLo kM)<|zM<|zZ) ?_
 refine jG<|kI (α := Nat × List Nat × Nat) (fun (i, out, c) => ⟨[(0, (vl 140 1 jC a)), (1, (vl 140 1 jC b)), (5, (.own 0 140 1 a.length)), (6, (fE c)), (13, (jN a.length)), (14, (jN i))], [(0, some (bm jC out))]⟩) (fun (i, out, c) => out.length = a.length ∧ Dig out ∧ i ≤ a.length ∧ c ≤ 1 ∧ val (out.take i) + val (b.take i) = val (a.take i) + pw i * c) (fun (i, out, c) => a.length - i) (0, List.replicate a.length 0, 0) wk ⟨by simp, xU _, Nat.zero_le _, Nat.zero_le _, by simp [val]⟩ ?_
 rintro ⟨i, out, c⟩ ⟨qZ, hdo, hi, hc, hv⟩
 have hai := hda.getD i
 have hbi := hdb.getD i
 refine jB<|kx [(15, (vb (decide (((i : Nat) : Int) < ((a.length : Nat) : Int)))))] [] (zE vZ<|zZ) ?_
 refine jB<|jF rfl (fun h1 => ?_) (fun h1 => ?_)
 ·replace h1 := uH h1
  refine jD<|jB<|jG<|jB<|kx [(7, (jN i))] [] (zM<|zM<|zZ) ?_
  refine jB<|kx [(8, (fE ((b.getD i 0) + c)))] [] (zM<|zM<|zE (jZ (t_at b i))<|zM<|zE (vG ((b.getD i 0) + c))<|zM<|zZ) ?_
  refine jB<|kx [(6, (fE 0))] [] (zM<|zZ) ?_
  refine jB<|kx [(27, (vb (decide ((((a.getD i 0) : Nat) : Int) < ((((b.getD i 0) + c) : Nat) : Int)))))] [] (zM<|zM<|zE (zU kM i (0 : Nat))<|zE (xI qU)<|zM<|zE vZ<|zZ) ?_
  refine jF rfl (fun h2 => ?_) (fun h2 => ?_)
  ·replace h2 := uH h2
   refine kx [(6, (fE 1))] [(0, some (bm jC (out.set i (((a.getD i 0) + 1000000000) - ((b.getD i 0) + c)))))] (zM<|zM<|zM<|zM<|zE (zU kM i (0 : Nat))<|zE (xI qU)<|zE (vG ((a.getD i 0) + 1000000000))<|zM<|zE (oSb (((a.getD i 0) + 1000000000) - ((b.getD i 0) + c)))<|zE (fJ kM i)<|zT (oSp qU i (((a.getD i 0) + 1000000000) - ((b.getD i 0) + c)))<|zM<|zZ) ?_
   refine kx [(14, (jN (i + 1)))] [] (zE (vG (i + 1))<|zM<|zZ) ?_
   exact ⟨(i + 1, out.set i (a.getD i 0 + 1000000000 - (b.getD i 0 + c)), 1), wk, (by obtain ⟨q1, q2, q3⟩ := minus_step (s := a.getD i 0 + 1000000000 - (b.getD i 0 + c)) (c' := 1) qZ hdo (by omega) hv (by omega) (by omega); exact ⟨q1, q2, by omega, by omega, q3⟩), (by first|omega|(dsimp only;omega))⟩
  ·replace h2 := vB h2
   refine kx [] [(0, some (bm jC (out.set i ((a.getD i 0) - ((b.getD i 0) + c)))))] (zM<|zM<|zM<|zM<|zE (zU kM i (0 : Nat))<|zE (xI qU)<|zM<|zE (oSb ((a.getD i 0) - ((b.getD i 0) + c)))<|zE (fJ kM i)<|zT (oSp qU i ((a.getD i 0) - ((b.getD i 0) + c)))<|zZ) ?_
   refine kx [(14, (jN (i + 1)))] [] (zE (vG (i + 1))<|zM<|zZ) ?_
   exact ⟨(i + 1, out.set i (a.getD i 0 - (b.getD i 0 + c)), 0), wk, (by obtain ⟨q1, q2, q3⟩ := minus_step (s := a.getD i 0 - (b.getD i 0 + c)) (c' := 0) qZ hdo (by omega) hv (by omega) (by omega); exact ⟨q1, q2, by omega, by omega, q3⟩), (by first|omega|(dsimp only;omega))⟩
 ·replace h1 := vB h1
  have hie : i = a.length := by omega
  rw [hie] at hv
  refine kC<|jB<|kH (vK (t := 5) (k := 0) (es := List.map jC out) rfl rfl (uI _ _ (fun _ => rfl)) (uG _ _ qZ) (vE _ _ (fun _ => rfl) qZ)) ?_
  refine kx [(4, (vl 140 1 jC (ofNat (val out))))] [] (zM<|zE (jZ (t_trim out (by assumption) (by omega)))<|zM<|zZ) ?_
  refine jE ⟨_, (.tmp (d := (.sl 140 1 (List.map jC (ofNat (val out))))) rfl .nil), ?_⟩
  rw [minus_end hda hdb hdo hba qZ hv]; rfl
theorem t_times (a b : List Nat) (hda : Dig a) (hdb : Dig b) (hla : a.length ≤ 4398046511104) (hlb : b.length ≤ 4398046511104) : jT Tryz.prog 226 [(.sl 140 1 (List.map jC a)), (.sl 140 1 (List.map jC b))] (.sl 140 1 (List.map jC (ofNat (val a * val b)))) := by
 refine jJ Tryz.func226 rfl cb226 rfl ?_
 show qR _ _ _ _ ⟨[(0, (vl 140 1 jC a)), (1, (vl 140 1 jC b))], []⟩
 refine jB<|kx [] [] (zE (mP 140 1)<|zZ) ?_
 refine jB<|kx [(5, (.own 0 140 1 (a.length + b.length)))] [(0, some (bm jC (List.replicate (a.length + b.length) 0)))] (zM<|zE (vX kM)<|zM<|zE (vX kM)<|zE (vG (a.length + b.length))<|zN (oMk 0 jC (0 : Nat) (a.length + b.length) (a.length + b.length) kM vL xZ gW)<|zM<|zZ) ?_
 refine jB<|jB<|kx [(18, (vl 140 1 jC a)), (19, (jN a.length)), (20, (jN 0))] [] (zM<|zE (vX kM)<|zM<|zZ) ?_
 refine jG<|kI (α := Nat × List Nat) (fun (i, out) => ⟨[(1, (vl 140 1 jC b)), (5, (.own 0 140 1 (a.length + b.length))), (18, (vl 140 1 jC a)), (19, (jN a.length)), (20, (jN i))], [(0, some (bm jC out))]⟩) (fun (i, out) => out.length = a.length + b.length ∧ Dig out ∧ i ≤ a.length ∧ (∀ k, i + b.length ≤ k → out.getD k 0 = 0) ∧ val out = val (a.take i) * val b) (fun (i, out) => a.length - i) (0, List.replicate (a.length + b.length) 0) wk ⟨by simp, xU _, Nat.zero_le _, fun k _ => eL _ k, by simp [val, dI]⟩ ?_
 rintro ⟨i, out⟩ ⟨qZ, hdo, hi, hz, hv⟩
 have hai := hda.getD i
 refine jB<|kx [(21, (vb (decide (((i : Nat) : Int) < ((a.length : Nat) : Int)))))] [] (zE vZ<|zZ) ?_
 refine jB<|jF rfl (fun h1 => ?_) (fun h1 => ?_)
 ·replace h1 := uH h1
  refine jD<|jB<|jG<|jB<|kx [(6, (jN i)), (7, (fE (a.getD i 0)))] [] (zM<|zE (zU kM i (0 : Nat))<|zE (xI qU)<|zM<|zM<|zZ) ?_
  refine jB<|kx [(8, (yS 0))] [] (zM<|zZ) ?_
  refine jB<|jB<|kx [(25, (vl 140 1 jC b)), (26, (jN b.length)), (27, (jN 0))] [] (zM<|zE (vX kM)<|zM<|zZ) ?_
  refine jG<|kI (α := Nat × List Nat × Nat) (fun (j, o2, c) => ⟨[(1, (vl 140 1 jC b)), (5, (.own 0 140 1 (a.length + b.length))), (6, (jN i)), (7, (fE (a.getD i 0))), (8, (yS c)), (18, (vl 140 1 jC a)), (19, (jN a.length)), (20, (jN i)), (25, (vl 140 1 jC b)), (26, (jN b.length)), (27, (jN j))], [(0, some (bm jC o2))]⟩) (fun (j, o2, c) => o2.length = a.length + b.length ∧ Dig o2 ∧ j ≤ b.length ∧ c < 1000000000 ∧ (∀ k, i + b.length ≤ k → o2.getD k 0 = 0) ∧ val o2 + pw (i + j) * c = val (a.take i) * val b + pw i * (a.getD i 0 * val (b.take j))) (fun (j, o2, c) => b.length - j) (0, out, 0) wk ⟨qZ, hdo, Nat.zero_le _, by decide, hz, by simp [val, hv]⟩ ?_
  rintro ⟨j, o2, c⟩ ⟨hlen2, hdo2, hj, hc, hz2, hv2⟩
  have hbj := hdb.getD j
  have hoj := hdo2.getD (i + j)
  have hpq : a.getD i 0 * b.getD j 0 ≤ 999999999 * 999999999 := Nat.mul_le_mul (by omega) (by omega)
  refine jB<|kx [(28, (vb (decide (((j : Nat) : Int) < ((b.length : Nat) : Int)))))] [] (zE vZ<|zZ) ?_
  refine jB<|jF rfl (fun h2 => ?_) (fun h2 => ?_)
  ·replace h2 := uH h2
   refine jD<|jB<|jG<|jB<|kx [(9, (jN j)), (10, (fE (b.getD j 0)))] [] (zM<|zE (zU kM j (0 : Nat))<|zE (xI qU)<|zM<|zM<|zZ) ?_
   refine jB<|kx [(11, (yS (((o2.getD (i + j) 0) + ((a.getD i 0) * (b.getD j 0))) + c)))] [] (zM<|zM<|zM<|zE (vG (i + j))<|zE (fJ kM (i + j))<|zR (oLp qU (i + j) (0 : Nat))<|zE (nY yD yF (o2.getD (i + j) 0))<|zM<|zE (nY yD yF (a.getD i 0))<|zM<|zE (nY yD yF (b.getD j 0))<|zE (oMl ((a.getD i 0) * (b.getD j 0)))<|zE (vG ((o2.getD (i + j) 0) + ((a.getD i 0) * (b.getD j 0))))<|zM<|zE (vG (((o2.getD (i + j) 0) + ((a.getD i 0) * (b.getD j 0))) + c))<|zM<|zZ) ?_
   refine kx [(8, (yS ((((o2.getD (i + j) 0) + ((a.getD i 0) * (b.getD j 0))) + c) / 1000000000)))] [(0, some (bm jC (o2.set (i + j) ((((o2.getD (i + j) 0) + ((a.getD i 0) * (b.getD j 0))) + c) % 1000000000))))] (zM<|zM<|zM<|zE (vG (i + j))<|zM<|zE (oRe ((((o2.getD (i + j) 0) + ((a.getD i 0) * (b.getD j 0))) + c) % 1000000000))<|zE (nY gP gE ((((o2.getD (i + j) 0) + ((a.getD i 0) * (b.getD j 0))) + c) % 1000000000))<|zM<|zE (oQu ((((o2.getD (i + j) 0) + ((a.getD i 0) * (b.getD j 0))) + c) / 1000000000))<|zE (fJ kM (i + j))<|zT (oSp qU (i + j) ((((o2.getD (i + j) 0) + ((a.getD i 0) * (b.getD j 0))) + c) % 1000000000))<|zM<|zZ) ?_
   refine kx [(27, (jN (j + 1)))] [] (zE (vG (j + 1))<|zM<|zZ) ?_
   exact ⟨(j + 1, o2.set (i + j) ((o2.getD (i + j) 0 + a.getD i 0 * b.getD j 0 + c) % 1000000000), (o2.getD (i + j) 0 + a.getD i 0 * b.getD j 0 + c) / 1000000000), wk, (by obtain ⟨q1, q2⟩ := times_step (by omega) hdo2 hv2 rfl (val_take_succ b j); exact ⟨by simpa using hlen2, q1, by omega, by omega, zero_set (by omega) hz2, q2⟩), (by first|omega|(dsimp only;omega))⟩
  ·replace h2 := vB h2
   have hje : j = b.length := by omega
   rw [hje] at hv2
   refine kC<|kx [] [(0, some (bm jC (o2.set (i + b.length) c)))] (zM<|zM<|zM<|zE (vX kM)<|zE (vG (i + b.length))<|zM<|zE (nY gP gE c)<|zE (fJ kM (i + b.length))<|zT (oSp qU (i + b.length) c)<|zZ) ?_
   refine kx [(20, (jN (i + 1)))] [] (zE (vG (i + 1))<|zM<|zZ) ?_
   exact ⟨(i + 1, o2.set (i + b.length) c), wk, (by obtain ⟨q1, q2, q3, q4⟩ := times_row hdo2 (by omega) hlen2 hz2 hc hv2; exact ⟨q1, q2, by omega, q3, q4⟩), (by first|omega|(dsimp only;omega))⟩
 ·replace h1 := vB h1
  have hie : i = a.length := by omega
  rw [hie, List.take_length] at hv
  refine kC<|jB<|kH (vK (t := 5) (k := 0) (es := List.map jC out) rfl rfl (uI _ _ (fun _ => rfl)) (uG _ _ qZ) (vE _ _ (fun _ => rfl) qZ)) ?_
  refine kx [(4, (vl 140 1 jC (ofNat (val out))))] [] (zM<|zE (jZ (t_trim out (by assumption) (by omega)))<|zM<|zZ) ?_
  refine jE ⟨_, (.tmp (d := (.sl 140 1 (List.map jC (ofNat (val out))))) rfl .nil), ?_⟩
  rw [hv]; rfl
open Go.RowKit Go.Shelf
attribute [local go_sem] Oper.semAt_some
set_option maxRecDepth 100000 in
set_option maxHeartbeats 2000000 in
theorem back1 (N l Bs b off len cap : Nat) (u : Nat → Value) (qZ : (len : Int) ≤ 9223372036854775807) (J : Nat → World → Prop) (Jx : World → Prop)
    (hc : ∀ j W, J j W → W.cell? ⟨Bs, 0, none⟩ = some (.slice (some ⟨b, off, none⟩) len cap) ∧ ∀ i, i < len → W.cell? ⟨b, off + i, none⟩ = some (u i))
    (hY : ∀ j W, J j W → j < len → YieldAt Fence.wide N Tryz.prog l #[.int .i64 ((len : Int) - 1 - (j : Int)), u (len - 1 - j)] W fun e W' =>
      (e = .returned (.bool true) ∧ J (j + 1) W') ∨ (e = .returned (.bool false) ∧ Jx W'))
    (W : World) (h0 : J 0 W) :
    CallsIn Fence.wide (N + 1) Tryz.prog 262 #[.func (.yield l) #[] #[], .pointer (some ⟨Bs, 0, none⟩)] W fun e W' => (∃ v, e = .returned v) ∧ (J len W' ∨ Jx W') := by
  refine callsIn_of_wp Tryz.func262 rfl trivial ?_ rfl
  simp only [Tryz.ntmps262, List.size_toArray, List.length_cons, List.length_nil, Nat.reduceAdd, Nat.reduceSub, Array.replicate_succ, Array.replicate_zero, List.push_toArray, List.append_toArray, List.nil_append, List.cons_append]
  have hBs := (hc 0 W h0).1
  gi_wp2
  gi_loopw [3] (fun i wr => ∃ j : Nat, j ≤ len ∧ i = .int .i64 ((len : Int) - 1 - (j : Int)) ∧ J j wr)
    (fun i _ => (intOf i + 1).toNat)
  case atStart => exact ⟨0, Nat.zero_le _, by simp, h0⟩
  case round =>
    obtain ⟨j, hk, rfl, hJs⟩ := hrel
    have hBj := (hc j wr hJs).1
    by_cases hlt : j < len
    · have hcj := (hc j wr hJs).2 (len - 1 - j) (by omega)
      obtain ⟨fn, tmps, assign, body, hy, hR⟩ := hY j wr hJs hlt
      gi_wp2
      refine hR.mono ?_
      rintro e W3 (⟨rfl, hJ3⟩ | ⟨rfl, hJx3⟩)
      · gi_wp2
        go_roundw
        case rel => exact ⟨j + 1, by omega, by simp; omega, hJ3⟩
        case measure => simp [intOf]; omega
      · gi_wp2
        refine bodyPost_ret (results_none rfl _ _ _) rfl ?_
        exact ⟨⟨_, rfl⟩, .inr hJx3⟩
    · obtain rfl : j = len := by omega
      gi_wp2
      go_end0
      exact ⟨⟨_, rfl⟩, .inl hJs⟩
set_option maxRecDepth 100000 in
set_option maxHeartbeats 2000000 in
theorem back1_nil (N l Bs cap : Nat) (ao : Option Addr) (J : World → Prop) (W : World) (hBs : W.cell? ⟨Bs, 0, none⟩ = some (.slice ao 0 cap)) (h0 : J W) :
    CallsIn Fence.wide (N + 1) Tryz.prog 262 #[.func (.yield l) #[] #[], .pointer (some ⟨Bs, 0, none⟩)] W fun e W' => (∃ v, e = .returned v) ∧ J W' := by
  refine callsIn_of_wp Tryz.func262 rfl trivial ?_ rfl
  simp only [Tryz.ntmps262, List.size_toArray, List.length_cons, List.length_nil, Nat.reduceAdd, Nat.reduceSub, Array.replicate_succ, Array.replicate_zero, List.push_toArray, List.append_toArray, List.nil_append, List.cons_append]
  gi_wp2
  gi_loopw [3] (fun i wr => i = .int .i64 (-1) ∧ J wr) (fun _ _ => 0)
  case atStart => exact ⟨by simp, h0⟩
  case round =>
    obtain ⟨rfl, hJs⟩ := hrel
    gi_wp2
    go_end0
    exact ⟨⟨_, rfl⟩, hJs⟩
set_option maxHeartbeats 1000000 in
theorem back_in (a : Option Addr) (len cap : Nat) (w : World) :
    Calls Tryz.prog 249 #[.slice a len cap] w fun e w' => e = .returned (.func (.func 262) #[] #[.pointer (some ⟨w.heap.size, 0, none⟩)]) ∧ w' = w.alloc (.cells #[.slice a len cap] 41) := by
  refine (callsIn_wide (n := 1)).1 (callsIn_of_wp Tryz.func249 rfl trivial ?_ rfl)
  simp only [Tryz.ntmps249, List.size_toArray, List.length_cons, List.length_nil, Nat.reduceAdd, Nat.reduceSub, Array.replicate_succ, Array.replicate_zero, List.push_toArray, List.append_toArray, List.nil_append, List.cons_append]
  gi_wp2
  go_ret
  exact ⟨rfl, rfl⟩
theorem backs : Go.Fid.Backs Tryz.prog 249 262 41 := ⟨back_in, back1_nil, fun N l c b off len cap u qZ J Jx hc hY W h0 => back1 N l c b off len cap u qZ J Jx hc hY W h0, enters_of Tryz.func262 (by kernel_rfl) rfl⟩
theorem cb217 : callB Tryz.prog 217 = true := by kernel_rfl
theorem cb218 : callB Tryz.prog 218 = true := by kernel_rfl
theorem cb219 : callB Tryz.prog 219 = true := by kernel_rfl
theorem cb220 : callB Tryz.prog 220 = true := by kernel_rfl
theorem cb221 : callB Tryz.prog 221 = true := by kernel_rfl
theorem cb248 : callB Tryz.prog 248 = true := by kernel_rfl
theorem cb249 : callB Tryz.prog 249 = true := by kernel_rfl
theorem cb250 : callB Tryz.prog 250 = true := by kernel_rfl
theorem cb263 : callB Tryz.prog 263 = true := by kernel_rfl
theorem pl43 : mT Tryz.prog 43 = some [(0, 1), (1, 1)] := by kernel_rfl
theorem yV : qL Tryz.prog 3 = some (false, 1) := by kernel_rfl
theorem zG : qL Tryz.prog 41 = some (false, 1) := by kernel_rfl
theorem jV : qL Tryz.prog 43 = some (true, 2) := by kernel_rfl
theorem sh170 : qL Tryz.prog 170 = some (false, 1) := by kernel_rfl
theorem ze3 : xH Tryz.prog 3 = some [.int .i64 0] := by kernel_rfl
theorem zL : xH Tryz.prog 43 = some [.bool false, .slice none 0 0] := by kernel_rfl
theorem ze170 : xH Tryz.prog 170 = some [.int .u64 0] := by kernel_rfl
theorem zo3 : eC [.int .i64 0] [.val (.int .i64 0)] := by simp [eC, Value.oneCell']
theorem zP : eC [.bool false, .slice none 0 0] [.val (.bool false), .sl 140 1 []] := by simp [eC, Value.oneCell']
theorem zo170 : eC [.int .u64 0] [.val (.int .u64 0)] := by simp [eC, Value.oneCell']
theorem t_isnan_int (a : Int) : jT Tryz.prog 248 [(.val (.int .i64 (a)))] (.val (.bool (false))) := by
 refine jJ Tryz.func248 rfl cb248 rfl ?_
 show qR _ _ _ _ ⟨[(0, (vi a))], []⟩
 refine jB<|kx [] [] (zM<|zZ) ?_
 refine jB<|kx [(2, (vb (a != a)))] [] (zM<|zM<|zE nR<|zM<|zZ) ?_
 refine jE ⟨_, (.tmp (d := (.val (.bool ((a != a))))) rfl .nil), ?_⟩
 simp [retD]
theorem t_cmp_int (a b : Int) : jT Tryz.prog 217 [(.val (.int .i64 (a))), (.val (.int .i64 (b)))] (.val (.int .i64 ((uX a b)))) := by
 refine jJ Tryz.func217 rfl cb217 rfl ?_
 show qR _ _ _ _ ⟨[(0, (vi a)), (1, (vi b))], []⟩
 refine jB<|kx [] [] (zM<|zZ) ?_
 refine jB<|kx [(5, (vb false))] [] (zM<|zE (jZ (t_isnan_int a))<|zM<|zZ) ?_
 refine jB<|kx [(6, (vb false))] [] (zM<|zE (jZ (t_isnan_int b))<|zM<|zZ) ?_
 refine jB<|jB<|kx [(11, (vb false))] [] (zM<|zZ) ?_
 refine kZ ?_
 refine jD<|jB<|jB<|kx [(13, (vb false))] [] (zM<|zZ) ?_
 refine kZ ?_
 refine jD<|jB<|jB<|kx [(16, (vb (decide (a < b))))] [] (zM<|zM<|zE vZ<|zZ) ?_
 refine jF (b := decide (a < b)) rfl (fun h1 => ?_) (fun h1 => ?_)
 ·replace h1 := uH h1
  refine jB<|kx [(4, (vi (-1)))] [] (zM<|zZ) ?_
  refine jE ⟨_, (.tmp (d := (.val (.int .i64 (-1)))) rfl .nil), ?_⟩
  rw [show uX a b = -1 from if_pos h1]; rfl
 ·replace h1 := vB h1
  refine jD<|jB<|jB<|kx [(19, (vb (decide (b < a))))] [] (zM<|zM<|zE mO<|zZ) ?_
  refine jF (b := decide (b < a)) rfl (fun h2 => ?_) (fun h2 => ?_)
  ·replace h2 := uH h2
   refine jB<|kx [(4, (jN 1))] [] (zM<|zZ) ?_
   refine jE ⟨_, (.tmp (d := (.val (.int .i64 (1)))) rfl .nil), ?_⟩
   rw [fO h2]; rfl
  ·replace h2 := vB h2
   refine jD<|jB<|kx [(4, (jN 0))] [] (zM<|zZ) ?_
   refine jE ⟨_, (.tmp (d := (.val (.int .i64 (0)))) rfl .nil), ?_⟩
   rw [cmpI_eq h1 h2]; rfl
theorem t_isnan_uint32 (a : Nat) : jT Tryz.prog 263 [(.val (.int .u32 (((a : Nat) : Int))))] (.val (.bool (false))) := by
 refine jJ Tryz.func263 rfl cb263 rfl ?_
 show qR _ _ _ _ ⟨[(0, (fE a))], []⟩
 refine jB<|kx [] [] (zM<|zZ) ?_
 refine jB<|kx [(2, (vb (((a : Nat) : Int) != ((a : Nat) : Int))))] [] (zM<|zM<|zE nR<|zM<|zZ) ?_
 refine jE ⟨_, (.tmp (d := (.val (.bool ((((a : Nat) : Int) != ((a : Nat) : Int)))))) rfl .nil), ?_⟩
 simp [retD]
theorem t_cmp_uint32 (a b : Nat) : jT Tryz.prog 250 [(.val (.int .u32 (((a : Nat) : Int)))), (.val (.int .u32 (((b : Nat) : Int))))] (.val (.int .i64 ((uX ((a : Nat) : Int) ((b : Nat) : Int))))) := by
 refine jJ Tryz.func250 rfl cb250 rfl ?_
 show qR _ _ _ _ ⟨[(0, (fE a)), (1, (fE b))], []⟩
 refine jB<|kx [] [] (zM<|zZ) ?_
 refine jB<|kx [(5, (vb false))] [] (zM<|zE (jZ (t_isnan_uint32 a))<|zM<|zZ) ?_
 refine jB<|kx [(6, (vb false))] [] (zM<|zE (jZ (t_isnan_uint32 b))<|zM<|zZ) ?_
 refine jB<|jB<|kx [(11, (vb false))] [] (zM<|zZ) ?_
 refine kZ ?_
 refine jD<|jB<|jB<|kx [(13, (vb false))] [] (zM<|zZ) ?_
 refine kZ ?_
 refine jD<|jB<|jB<|kx [(16, (vb (decide (((a : Nat) : Int) < ((b : Nat) : Int)))))] [] (zM<|zM<|zE vZ<|zZ) ?_
 refine jF rfl (fun h1 => ?_) (fun h1 => ?_)
 ·replace h1 := uH h1
  refine jB<|kx [(4, (vi (-1)))] [] (zM<|zZ) ?_
  refine jE ⟨_, (.tmp (d := (.val (.int .i64 (-1)))) rfl .nil), ?_⟩
  rw [show uX ((a : Nat) : Int) ((b : Nat) : Int) = -1 from if_pos h1]; rfl
 ·replace h1 := vB h1
  refine jD<|jB<|jB<|kx [(19, (vb (decide (((b : Nat) : Int) < ((a : Nat) : Int)))))] [] (zM<|zM<|zE mO<|zZ) ?_
  refine jF rfl (fun h2 => ?_) (fun h2 => ?_)
  ·replace h2 := uH h2
   refine jB<|kx [(4, (jN 1))] [] (zM<|zZ) ?_
   refine jE ⟨_, (.tmp (d := (.val (.int .i64 (1)))) rfl .nil), ?_⟩
   rw [fO h2]; rfl
  ·replace h2 := vB h2
   refine jD<|jB<|kx [(4, (jN 0))] [] (zM<|zZ) ?_
   refine jE ⟨_, (.tmp (d := (.val (.int .i64 (0)))) rfl .nil), ?_⟩
   rw [cmpI_eq h1 h2]; rfl
theorem nU (neg : Bool) (l : List Nat) (hd : Dig l) (hb : l.length ≤ 17592186044416) : jT Tryz.prog 220 [(.val (.bool (neg))), (.sl 140 1 (List.map jC l))] (jK (vW neg (val l))) := by
 refine jJ Tryz.func220 rfl cb220 rfl ?_
 show qR _ _ _ _ ⟨[(0, (vb neg)), (1, (vl 140 1 jC l))], []⟩
 refine jB<|kx [(4, (.ref 0 0))] [(0, some (bx (jK (kS.mk false []))))] (zN (uU 0 zL zP)<|zZ) ?_
 refine jB<|kx [(1, (vl 140 1 jC (ofNat (val l))))] [] (zM<|zE (jZ (t_trim l (by assumption) (by omega)))<|zM<|zZ) ?_
 refine jB<|jB<|kx [(9, (vb ((((ofNat (val l)).length : Nat) : Int) == 0)))] [] (zM<|zE (vX kM (L := (ofNat (val l))))<|zE gA<|zZ) ?_
 refine jF rfl (fun h1 => ?_) (fun h1 => ?_)
 ·replace h1 := eq_of_beq h1
  refine jB<|kx [] [(0, some (bx (jK (kS.mk false []))))] (zE (bS pl43 zL zP)<|zT (qM jV)<|zZ) ?_
  refine jE ⟨_, (kU (cs := (bx (jK (kS.mk false [])))) (d := (jK (kS.mk false []))) rfl rfl jV rfl rfl .nil), ?_⟩
  rw [mkI_zero h1]; rfl
 ·replace h1 := ne_of_beq_false h1
  refine jD<|jB<|kx [] [(0, some (bx (jK (kS.mk neg (ofNat (val l))))))] (zM<|zM<|zE (bS pl43 zL zP)<|zT (qM jV)<|zZ) ?_
  refine jE ⟨_, (kU (cs := (bx (jK (kS.mk neg (ofNat (val l)))))) (d := (jK (kS.mk neg (ofNat (val l))))) rfl rfl jV rfl rfl .nil), ?_⟩
  rw [mkI_pos h1]; rfl
theorem t_word (l : List Nat) (hd : Dig l) : jT Tryz.prog 219 [(.sl 140 1 (List.map jC l))] (.tup [(.val (.int .u64 ((((yH l) : Nat) : Int)))), (.val (.bool ((nQ l))))]) := by
 refine jJ Tryz.func219 rfl cb219 rfl ?_
 show qR _ _ _ _ ⟨[(0, (vl 140 1 jC l))], []⟩
 refine jB<|kx [(2, (yS 0)), (3, (vb false))] [] (zM<|zM<|zZ) ?_
 refine jB<|jB<|kx [(9, (vb (decide (2 < ((l.length : Nat) : Int)))))] [] (zM<|zE (vX kM)<|zE mO<|zZ) ?_
 refine jF (b := decide (2 < ((l.length : Nat) : Int))) rfl (fun h1 => ?_) (fun h1 => ?_)
 ·replace h1 := uH h1
  refine jB<|kx [(2, (yS 0)), (3, (vb false))] [] (zM<|zM<|zZ) ?_
  refine jE ⟨_, (.tmp (d := (.val (.int .u64 (0)))) rfl (.tmp (d := (.val (.bool (false)))) rfl .nil)), ?_⟩
  rw [show yH l = 0 from if_neg (by omega), show nQ l = false from decide_eq_false (by omega)]; rfl
 ·replace h1 := vB h1
  have h2 : l.length ≤ 2 := by omega
  refine jD<|jB<|kx [(4, (.ref 0 0))] [(0, some (bx (.val (.int .u64 (0)))))] (zN (uU 0 ze170 zo170)<|zT (qM sh170)<|zZ) ?_
  refine jB<|pwp_backL backs cb249 rfl 5 jC l 0 (fun n => ⟨[(2, (yS 0)), (3, (vb false)), (4, (.ref 0 0))], [(0, some (bx (.val (.int .u64 (((n : Nat) : Int))))))]⟩) (fun (j : Nat) n => n = val (l.drop (l.length - j))) 0 rfl rfl rfl rfl rfl rfl rfl rfl rfl rfl rfl rfl (fun _ => rfl) (fun _ => rfl) wk (by simp [val]) (by omega) ?_ ?_
  ·rintro rl j n hj hn
   have hw := word_bound hd hj h2
   rw [← hn] at hw
   have hg := hd.getD (l.length - 1 - j)
   refine kx [(6, (fE (l.getD (l.length - 1 - j) 0)))] [] (zM<|zZ) ?_
   refine jG<|kx [] [(0, some (bx (.val (.int .u64 (((((n * 1000000000) + (l.getD (l.length - 1 - j) 0)) : Nat) : Int))))))] (zR (uL sh170)<|zE (oMl (n * 1000000000))<|zM<|zE (nY yD yF (l.getD (l.length - 1 - j) 0))<|zE (vG ((n * 1000000000) + (l.getD (l.length - 1 - j) 0)))<|zT (qM sh170)<|zZ) ?_
   exact ⟨n * 1000000000 + l.getD (l.length - 1 - j) 0, wk, (by dsimp only; rw [aQ l j hj, ← hn]; omega)⟩
  ·rintro n hn
   refine jB<|kx [(2, (yS n)), (3, (vb true))] [] (zR (uL sh170)<|zM<|zM<|zZ) ?_
   refine jE ⟨_, (.tmp (d := (.val (.int .u64 (((n : Nat) : Int))))) rfl (.tmp (d := (.val (.bool (true)))) rfl .nil)), ?_⟩
   rw [show yH l = n by rw [hn, Nat.sub_self, List.drop_zero]; exact if_pos h2, show nQ l = true from decide_eq_true h2]; rfl
theorem t_compare (a b : List Nat) (ha : xX a) (hb : xX b) (hla : a.length ≤ 17592186044416) : jT Tryz.prog 218 [(.sl 140 1 (List.map jC a)), (.sl 140 1 (List.map jC b))] (.val (.int .i64 ((uX ((val a : Nat) : Int) ((val b : Nat) : Int))))) := by
 refine jJ Tryz.func218 rfl cb218 rfl ?_
 show qR _ _ _ _ ⟨[(0, (vl 140 1 jC a)), (1, (vl 140 1 jC b))], []⟩
 refine jB<|kx [(3, (.ref 0 0)), (4, (.ref 1 0))] [(0, some (bx (.sl 140 1 (List.map jC b)))), (1, some (bx (.val (.int .i64 (0)))))] (zN (xA 0)<|zN (uU 1 ze3 zo3)<|zZ) ?_
 refine jB<|jB<|kx [(11, (vb (((a.length : Nat) : Int) != ((b.length : Nat) : Int))))] [] (zM<|zE (vX kM)<|zR (uL zG)<|zE (vX kM)<|zE nR<|zZ) ?_
 refine jF rfl (fun h1 => ?_) (fun h1 => ?_)
 ·replace h1 := bne_iff_ne.1 h1
  refine jB<|kx [] [(1, some (bx (.val (.int .i64 ((uX ((a.length : Nat) : Int) ((b.length : Nat) : Int)))))))] (zM<|zE (vX kM)<|zR (uL zG)<|zE (vX kM)<|zE (jZ (t_cmp_int ((a.length : Nat) : Int) ((b.length : Nat) : Int)))<|zT (qM yV)<|zZ) ?_
  refine jE ⟨_, (res_1 (cs := (bx (.val (.int .i64 ((uX ((a.length : Nat) : Int) ((b.length : Nat) : Int))))))) (d := (.val (.int .i64 ((uX ((a.length : Nat) : Int) ((b.length : Nat) : Int)))))) rfl rfl yV rfl rfl .nil), ?_⟩
  rw [← cmpI_len ha hb h1]; rfl
 ·replace h1 := bne_eq_false_iff_eq.1 h1
  have hl : a.length = b.length := by omega
  refine jD<|jB<|pwp_backL backs cb249 rfl 5 jC a 0 (fun _ => ⟨[(3, (.ref 0 0)), (4, (.ref 1 0))], [(0, some (bx (.sl 140 1 (List.map jC b)))), (1, some (bx (.val (.int .i64 (0)))))]⟩) (fun (j : Nat) _ => val (a.drop (a.length - j)) = val (b.drop (a.length - j))) () rfl rfl rfl rfl rfl rfl rfl rfl rfl rfl rfl rfl (fun _ => rfl) (fun _ => rfl) wk (by rw [Nat.sub_zero, List.drop_length, hl, List.drop_length]) (by omega) ?_ ?_
  ·rintro rl j ⟨⟩ hj he
   refine jB<|kx [(5, (jN (a.length - 1 - j)))] [] (zM<|zZ) ?_
   refine kx [(6, (fE (a.getD (a.length - 1 - j) 0)))] [] (zM<|zZ) ?_
   refine jG<|jB<|kx [(26, (vb ((((a.getD (a.length - 1 - j) 0) : Nat) : Int) != (((b.getD (a.length - 1 - j) 0) : Nat) : Int))))] [] (zM<|zR (uL zG)<|zM<|zE (zU kM (a.length - 1 - j) (0 : Nat))<|zE (xI qU)<|zE nR<|zZ) ?_
   refine jF rfl (fun h2 => ?_) (fun h2 => ?_)
   ·replace h2 := bne_iff_ne.1 h2
    refine jB<|kx [] [(1, some (bx (.val (.int .i64 ((uX (((a.getD (a.length - 1 - j) 0) : Nat) : Int) (((b.getD (a.length - 1 - j) 0) : Nat) : Int)))))))] (zM<|zR (uL zG)<|zM<|zE (zU kM (a.length - 1 - j) (0 : Nat))<|zE (xI qU)<|zE (jZ (t_cmp_uint32 (a.getD (a.length - 1 - j) 0) (b.getD (a.length - 1 - j) 0)))<|zT (qM yV)<|zZ) ?_
    refine jE ⟨⟨[(4, (.ref 1 0))], [(1, some (bx (.val (.int .i64 ((uX (((a.getD (a.length - 1 - j) 0) : Nat) : Int) (((b.getD (a.length - 1 - j) 0) : Nat) : Int)))))))]⟩, wk, keys_of rfl, ⟨_, (res_1 (cs := (bx (.val (.int .i64 ((uX (((a.getD (a.length - 1 - j) 0) : Nat) : Int) (((b.getD (a.length - 1 - j) 0) : Nat) : Int))))))) (d := (.val (.int .i64 ((uX (((a.getD (a.length - 1 - j) 0) : Nat) : Int) (((b.getD (a.length - 1 - j) 0) : Nat) : Int)))))) rfl rfl yV rfl rfl .nil), ?_⟩⟩
    rw [← cmpI_top ha.1 hb.1 hl hj he h2]; rfl
   ·replace h2 := bne_eq_false_iff_eq.1 h2
    refine jD ?_
    exact ⟨(), wk, (by dsimp only; have e1 := aQ a j hj; have e2 := aQ b j (by omega); rw [← hl] at e2; rw [e1, e2, he]; omega)⟩
  ·rintro ⟨⟩ he
   refine jB<|kx [] [(1, some (bx (.val (.int .i64 (0)))))] (zT (qM yV)<|zZ) ?_
   refine jE ⟨_, (res_1 (cs := (bx (.val (.int .i64 (0))))) (d := (.val (.int .i64 (0)))) rfl rfl yV rfl rfl .nil), ?_⟩
   rw [cmpI_same (by rw [Nat.sub_self, List.drop_zero, List.drop_zero] at he; exact he)]; rfl
theorem t_split (n : Nat) (hn : n < 18446744073709551616) : jT Tryz.prog 221 [(.val (.int .u64 (((n : Nat) : Int))))] (.sl 140 1 (List.map jC (ofNat n))) := by
 refine jJ Tryz.func221 rfl cb221 rfl ?_
 show qR _ _ _ _ ⟨[(0, (yS n))], []⟩
 refine jB<|kx [] [] (zE (mP 140 1)<|zZ) ?_
 refine jB<|kx [(3, (.own 0 140 1 0))] [(0, some (bm jC []))] (zO 0 140 1<|zZ) ?_
 refine jB<|jG<|kI (α := Nat × List Nat) (fun (m, g) => ⟨[(0, (yS m)), (3, (.own 0 140 1 g.length))], [(0, some (bm jC g))]⟩) (fun (m, g) => m ≤ n ∧ g ++ ofNat m = ofNat n) (fun (m, g) => m) (n, []) wk ⟨Nat.le_refl _, by rw [List.nil_append]⟩ ?_
 rintro ⟨m, g⟩ ⟨hm, hg⟩
 have hl := split_len hg hn
 refine jB<|jB<|kx [(5, (vb (decide (0 < ((m : Nat) : Int)))))] [] (zM<|zE mO<|zZ) ?_
 refine jF (b := decide (0 < ((m : Nat) : Int))) rfl (fun h1 => ?_) (fun h1 => ?_)
 ·replace h1 := uH h1
  refine jD<|jB<|jG<|kf [(3, (.own 0 140 1 ((g ++ [(m % 1000000000)]).length)))] [(0, some (bm jC (g ++ [(m % 1000000000)])))] (zM<|zM<|zE (oRe (m % 1000000000))<|zE (nY gP gE (m % 1000000000))<|zE (gN kM vL xZ)<|zA jC g [(m % 1000000000)] rfl kM vL gW<|zM<|zF) ?_
  refine kx [(0, (yS (m / 1000000000)))] [] (zM<|zE (oQu (m / 1000000000))<|zM<|zZ) ?_
  exact ⟨(m / 1000000000, g ++ [m % 1000000000]), wk, ⟨by omega, split_step hg h1⟩, (by first|omega|(dsimp only;omega))⟩
 ·replace h1 := vB h1
  refine kC<|jB<|kH (vK (t := 3) (k := 0) (es := List.map jC g) rfl rfl (uI _ _ (fun _ => rfl)) (uG _ _ rfl) (vE _ _ (fun _ => rfl) rfl)) ?_
  refine kx [(2, (vl 140 1 jC g))] [] (zM<|zM<|zZ) ?_
  refine jE ⟨_, (.tmp (d := (.sl 140 1 (List.map jC g))) rfl .nil), ?_⟩
  rw [split_end hg h1]; rfl
theorem cb135 : callB Tryz.prog 135 = true := by kernel_rfl
theorem cb214 : callB Tryz.prog 214 = true := by kernel_rfl
theorem cb215 : callB Tryz.prog 215 = true := by kernel_rfl
theorem cb216 : callB Tryz.prog 216 = true := by kernel_rfl
theorem cb223 : callB Tryz.prog 223 = true := by kernel_rfl
theorem cb247 : callB Tryz.prog 247 = true := by kernel_rfl
theorem vJ : vR Tryz.prog 43 0 = some 0 := by kernel_rfl
theorem vT : vR Tryz.prog 43 1 = some 1 := by kernel_rfl
theorem sh4 : qL Tryz.prog 4 = some (false, 1) := by kernel_rfl
theorem t_big (a : Nat) : jT Tryz.prog 215 [(.val (.int .u32 (((a : Nat) : Int))))] (.val (.bool ((decide (1000000000 ≤ ((a : Nat) : Int)))))) := by
 refine jJ Tryz.func215 rfl cb215 rfl ?_
 show qR _ _ _ _ ⟨[(0, (fE a))], []⟩
 refine jB<|kx [] [] (zM<|zZ) ?_
 refine jB<|kx [(2, (vb (decide (1000000000 ≤ ((a : Nat) : Int)))))] [] (zM<|zE oGe<|zM<|zZ) ?_
 refine jE ⟨_, (.tmp (d := (.val (.bool (decide (1000000000 ≤ ((a : Nat) : Int)))))) rfl .nil), ?_⟩
 rfl
theorem t_index (l : List Nat) (hb : l.length ≤ 17592186044416) : jT Tryz.prog 247 [(.sl 140 1 (List.map jC l)), (.val (.func (.func 215) #[] #[]))] (.val (.int .i64 ((xK l)))) := by
 refine jJ Tryz.func247 rfl cb247 rfl ?_
 show qR _ _ _ _ ⟨[(0, (vl 140 1 jC l)), (1, (.d (.val (.func (.func 215) #[] #[]))))], []⟩
 refine jB<|kx [] [] (zM<|zZ) ?_
 refine jB<|jB<|kx [(7, (jN l.length)), (8, (jN 0))] [] (zM<|zE (vX kM)<|zM<|zZ) ?_
 refine jG<|kI (α := Nat) (fun i => ⟨[(0, (vl 140 1 jC l)), (1, (.d (.val (.func (.func 215) #[] #[])))), (7, (jN l.length)), (8, (jN i))], []⟩) (fun i => i ≤ l.length ∧ Dig (l.take i)) (fun i => l.length - i) 0 wk ⟨Nat.zero_le _, gG⟩ ?_
 rintro i ⟨hi, hd⟩
 refine jB<|kx [(9, (vb (decide (((i : Nat) : Int) < ((l.length : Nat) : Int)))))] [] (zE vZ<|zZ) ?_
 refine jB<|jF rfl (fun h1 => ?_) (fun h1 => ?_)
 ·replace h1 := uH h1
  refine jD<|jB<|jG<|jB<|kx [(5, (jN i))] [] (zM<|zM<|zZ) ?_
  refine jB<|kx [(16, (vb (decide (1000000000 ≤ (((l.getD i 0) : Nat) : Int)))))] [] (zM<|zM<|zM<|zE (zU kM i (0 : Nat))<|zE (xI qU)<|zE (jZ (t_big (l.getD i 0)))<|zZ) ?_
  refine jF rfl (fun h2 => ?_) (fun h2 => ?_)
  ·replace h2 := uH h2
   refine jB<|kx [(4, (jN i))] [] (zM<|zM<|zZ) ?_
   refine jE ⟨_, (.tmp (d := (.val (.int .i64 (((i : Nat) : Int))))) rfl .nil), ?_⟩
   rw [firstBig_at (by omega) hd (by omega)]; rfl
  ·replace h2 := vB h2
   refine jD<|kx [(8, (jN (i + 1)))] [] (zE (vG (i + 1))<|zM<|zZ) ?_
   exact ⟨(i + 1), wk, ⟨by omega, dig_take_succ (by omega) hd (by omega)⟩, (by omega)⟩
 ·replace h1 := vB h1
  refine kC<|jB<|kx [(4, (vi (-1)))] [] (zM<|zZ) ?_
  refine jE ⟨_, (.tmp (d := (.val (.int .i64 (-1)))) rfl .nil), ?_⟩
  rw [bM (by rw [List.take_of_length_le (by omega)] at hd; exact hd)]; rfl
theorem t_contains (l : List Nat) (hb : l.length ≤ 17592186044416) : jT Tryz.prog 214 [(.sl 140 1 (List.map jC l)), (.val (.func (.func 215) #[] #[]))] (.val (.bool ((decide (0 ≤ xK l))))) := by
 refine jJ Tryz.func214 rfl cb214 rfl ?_
 show qR _ _ _ _ ⟨[(0, (vl 140 1 jC l)), (1, (.d (.val (.func (.func 215) #[] #[]))))], []⟩
 refine jB<|kx [] [] (zM<|zZ) ?_
 refine jB<|kx [(4, (vb (decide (0 ≤ (xK l)))))] [] (zM<|zM<|zE (jZ (t_index l (by omega)))<|zE oGe<|zM<|zZ) ?_
 refine jE ⟨_, (.tmp (d := (.val (.bool (decide (0 ≤ (xK l)))))) rfl .nil), ?_⟩
 rfl
theorem t_valid (x : kS) (hb : x.gs.length ≤ 17592186044416) : jT Tryz.prog 135 [(jK x)] (.val (.bool ((uM x)))) := by
 refine jJ Tryz.func135 rfl cb135 rfl ?_
 show qR _ _ _ _ ⟨[(0, (.d (jK x)))], []⟩
 refine jB<|kx [(1, (.ref 0 0))] [(0, some (bx (jK x)))] (zN (xA 0)<|zM<|zZ) ?_
 refine jB<|kx [(3, (jN x.gs.length))] [] (zE (qD vT)<|zR (uL zG)<|zE (vX kM)<|zM<|zZ) ?_
 refine jB<|jB<|kx [(8, (vb (((x.gs.length : Nat) : Int) == 0)))] [] (zM<|zE gA<|zZ) ?_
 refine jF (b := (((x.gs.length : Nat) : Int) == 0)) rfl (fun h1 => ?_) (fun h1 => ?_)
 ·replace h1 := eq_of_beq h1
  refine jB<|kx [(2, (vb (!x.neg)))] [] (zE (qD vJ)<|zR (uL sh4)<|zE fC<|zM<|zZ) ?_
  refine jE ⟨_, (.tmp (d := (.val (.bool (!x.neg)))) rfl .nil), ?_⟩
  rw [show uM x = !x.neg from if_pos h1]; rfl
 ·replace h1 := ne_of_beq_false h1
  refine jD<|jB<|kx [(2, (vb (((((x.gs.getD (x.gs.length - 1) 0) : Nat) : Int) != 0) && !(decide (0 ≤ xK x.gs)))))] [] ?_ ?_
  ·refine zE (qD vT)<|zR (uL zG)<|zM<|zE (oSb (x.gs.length - 1))<|zE (zU kM (x.gs.length - 1) (0 : Nat))<|zE (xI qU)<|zE nR<|zE (oV (vb ((((x.gs.getD (x.gs.length - 1) 0) : Nat) : Int) != 0)) (qH (by kernel_rfl)))<|?_
   rcases hb2 : ((((x.gs.getD (x.gs.length - 1) 0) : Nat) : Int) != 0) with _ | _
   ·replace hb2 := bne_eq_false_iff_eq.1 hb2
    exact zK<|zK<|zK<|zK<|zE yM<|zM<|zZ
   ·replace hb2 := bne_iff_ne.1 hb2
    exact zE (qD vT)<|zR (uL zG)<|zE (jZ (t_contains x.gs (by omega)))<|zE fC<|zE aJ<|zM<|zZ
  refine jE ⟨_, (.tmp (d := (.val (.bool ((((((x.gs.getD (x.gs.length - 1) 0) : Nat) : Int) != 0) && !(decide (0 ≤ xK x.gs))))))) rfl .nil), ?_⟩
  rw [show uM x = _ from if_neg h1]; rfl
theorem yZ (x : kS) (hb : x.gs.length ≤ 17592186044416) : jT Tryz.prog 216 [(jK x)] (.sl 140 1 (List.map jC (kO x))) := by
 refine jJ Tryz.func216 rfl cb216 rfl ?_
 show qR _ _ _ _ ⟨[(0, (.d (jK x)))], []⟩
 refine jB<|kx [(1, (.ref 0 0))] [(0, some (bx (jK x)))] (zN (xA 0)<|zE (mP 140 1)<|zZ) ?_
 refine jB<|jB<|kx [(5, (vb (!(uM x))))] [] (zR (kP jV)<|zE (jZ (t_valid x (by omega)))<|zE fC<|zZ) ?_
 refine jF (b := !(uM x)) rfl (fun h1 => ?_) (fun h1 => ?_)
 ·refine jB<|kx [(2, (vl 140 1 jC []))] [] (zE (mP 140 1)<|zZ) ?_
  refine jE ⟨_, (.tmp (d := (.sl 140 1 (List.map jC []))) rfl .nil), ?_⟩
  rw [show kO x = [] from if_neg (by simpa using h1)]; rfl
 ·refine jD<|jB<|kx [(2, (vl 140 1 jC x.gs))] [] (zE (qD vT)<|zR (uL zG)<|zM<|zZ) ?_
  refine jE ⟨_, (.tmp (d := (.sl 140 1 (List.map jC x.gs))) rfl .nil), ?_⟩
  rw [show kO x = x.gs from if_pos (by simpa using h1)]; rfl
theorem t_clone (l : List Nat) (hb : l.length ≤ 17592186044416) : jT Tryz.prog 223 [(.sl 140 1 (List.map jC l))] (.sl 140 1 (List.map jC l)) := by
 refine jJ Tryz.func223 rfl cb223 rfl ?_
 show qR _ _ _ _ ⟨[(0, (vl 140 1 jC l))], []⟩
 refine jB<|kx [] [] (zE (mP 140 1)<|zZ) ?_
 refine jB<|jB<|pwp_nilq rfl rfl rfl rfl rfl rfl kM rfl rfl rfl (fun nb hnb => ?_)
 refine jF (b := nb) rfl (fun h1 => ?_) (fun h1 => ?_)
 ·refine jB<|kx [(2, (vl 140 1 jC []))] [] (zE (mP 140 1)<|zZ) ?_
  refine jE ⟨_, (.tmp (d := (.sl 140 1 (List.map jC []))) rfl .nil), ?_⟩
  rw [List.map_eq_nil_iff.1 (hnb h1)]; rfl
 ·refine jD<|jB<|kf [(2, (.own 0 140 1 (([] ++ l).length)))] [(0, some (bm jC ([] ++ l)))] (zN (oBo 0 kM vL xZ)<|zM<|zA jC [] l rfl kM vL gW<|zM<|zF) ?_
  refine kH (vK (t := 2) (k := 0) (es := List.map jC ([] ++ l)) rfl rfl (uI _ _ (fun _ => rfl)) (uG _ _ rfl) (vE _ _ (fun _ => rfl) rfl)) ?_
  refine jE ⟨_, (.tmp (d := (.sl 140 1 (List.map jC ([] ++ l)))) rfl .nil), ?_⟩
  rfl
end Go.Proofs.YtnajallgoaiahaaGreatDoor
