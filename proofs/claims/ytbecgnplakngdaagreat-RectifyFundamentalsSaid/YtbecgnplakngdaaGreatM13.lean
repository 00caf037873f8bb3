/- Part 13 of a proof: rules, plain facts, and functions walked. -/
import Derived.Test.YtbecgnplakngdaaGreatM10
import Derived.Test.YtbecgnplakngdaaGreatM7
import Derived.Test.YtbecgnplakngdaaGreatM12
import Derived.Test.YtbecgnplakngdaaGreatChecked
import Derived.RangeFuncBox
import Derived.Shelf.Abstract
import Derived.OwnWalkIn
import Derived.TacticsInMore
import Derived.LoopNIn
import Derived.LoopIn
import Derived.Test.YtbecgnplakngdaaGreatM9
namespace Go.Proofs.YtbecgnplakngdaaGreat
open Go.Fid
set_option maxRecDepth 4000
set_option linter.unusedVariables false
set_option linter.unusedSimpArgs false
theorem cD : cQ Tryz.prog 152 = some 4 := by kernel_rfl
theorem cb179 : callB Tryz.prog 179 = true := by kernel_rfl
theorem cb193 : callB Tryz.prog 193 = true := by kernel_rfl
theorem cb194 : callB Tryz.prog 194 = true := by kernel_rfl
theorem cb206 : callB Tryz.prog 206 = true := by kernel_rfl
theorem cb213 : callB Tryz.prog 213 = true := by kernel_rfl
theorem kY : zD Tryz.prog 38 = some (152, 1) := by kernel_rfl
theorem gW : intB Tryz.prog 152 = some .u32 := by kernel_rfl
theorem yY : intB Tryz.prog 154 = some .u64 := by kernel_rfl
theorem uG : qY Tryz.prog 152 = some (false, 1) := by kernel_rfl
theorem gK : (Tryz.prog.underlying 152).isSome = true := by kernel_rfl
theorem nW : (Tryz.prog.underlying 154).isSome = true := by kernel_rfl
theorem xK : xJ Tryz.prog 152 = some [.int .u32 0] := by kernel_rfl
theorem gI : dB [.int .u32 0] [.val (.int .u32 0)] := by simp [dB, Value.oneCell']
theorem t_at (l : List Nat) (i : Nat) : kH Tryz.prog 213 [(.sl 152 1 (List.map jC l)), (.val (.int .i64 (((i : Nat) : Int))))] (.val (.int .u32 ((((l.getD i 0) : Nat) : Int)))) := by
 refine jP Tryz.func213 rfl cb213 rfl ?_
 show uK _ _ _ _ ⟨[(0, (vl 152 1 jC l)), (1, (kD i))], []⟩
 refine jA <| kx [] [] (zM <| zZ) ?_
 refine jA <| jA <| kx [(8, (vb (decide (((i : Nat) : Int) < ((l.length : Nat) : Int)))))] [] (zM <| zM <| zE (dD kY) <| zE qI <| zZ) ?_
 refine jV rfl (fun h1 => ?_) (fun h1 => ?_)
 ·replace h1 := of_decide_eq_true h1
  refine jA <| kx [(4, (aL (l.getD i 0)))] [] (zM <| zM <| zE (oXl kY i (0 : Nat)) <| zE (xX uG) <| zM <| zZ) ?_
  refine jJ ⟨_, (.tmp (d := (.val (.int .u32 ((((l.getD i 0) : Nat) : Int))))) rfl .nil), ?_⟩
  rfl
 ·replace h1 := of_decide_eq_false h1
  refine jE <| jA <| kx [(4, (aL 0))] [] (zM <| zZ) ?_
  refine jJ ⟨_, (.tmp (d := (.val (.int .u32 (0)))) rfl .nil), ?_⟩
  rw [show l.getD i 0 = 0 from getD_out (by omega)]; rfl
theorem t_trim (l0 : List Nat) (hd : Dig l0) (hb : l0.length ≤ 17592186044416) : kH Tryz.prog 206 [(.sl 152 1 (List.map jC l0))] (.sl 152 1 (List.map jC (ofNat (val l0)))) := by
 refine jP Tryz.func206 rfl cb206 rfl ?_
 show uK _ _ _ _ ⟨[(0, (vl 152 1 jC l0))], []⟩
 refine jA <| kx [] [] (zE (oNl 152 1) <| zZ) ?_
 refine jA <| jF <| uT (α := List Nat) (fun l => ⟨[(0, (vl 152 1 jC l))], []⟩) (fun l => Dig l ∧ val l = val l0 ∧ l.length ≤ l0.length) (fun l => l.length) l0 wk ⟨hd, rfl, Nat.le_refl _⟩ ?_
 rintro l ⟨hl, hv, hle⟩
 refine jA <| jA <| kx [(14, (vb (decide (0 < ((l.length : Nat) : Int)) && ((((l.getD (l.length - 1) 0) : Nat) : Int) == 0))))] [] ?_ ?_
 ·refine zM <| zE (dD kY) <| zE aG <| zE (oV (vb (decide (0 < ((l.length : Nat) : Int)))) (xI (by kernel_rfl))) <| ?_
  rcases hb1 : (decide (0 < ((l.length : Nat) : Int))) with _ | _
  ·replace hb1 := of_decide_eq_false hb1
   exact zK <| zK <| zK <| zK <| zK <| zK <| zK <| zE iL <| zZ
  ·replace hb1 := of_decide_eq_true hb1
   exact zM <| zM <| zE (dD kY) <| zE (oSb (l.length - 1)) <| zE (oXl kY (l.length - 1) (0 : Nat)) <| zE (xX uG) <| zE cB <| zE oPa <| zZ
 refine jV rfl (fun h2 => ?_) (fun h2 => ?_)
 ·obtain ⟨hp, _⟩ := trim_cond h2
  refine jE <| jF <| kx [(0, (vl 152 1 jC (List.take (l.length - 1) l)))] [] (zM <| zM <| zE (dD kY) <| zE (oSb (l.length - 1)) <| zE (e_slc (l := 0) (h := (l.length - 1)) (kl := .i64) (kh := .i64) (es' := List.map jC (List.take (l.length - 1) l)) (by exact rfl) kY (by exact rfl) (by exact rfl) (by exact rfl) (Nat.zero_le _) (by simp only [List.length_map]; omega) (by rw [List.drop_zero, List.map_take])) <| zM <| zZ) ?_
  exact ⟨(l.take (l.length - 1)), wk, (trim_step hl hv hle h2), (trim_less h2)⟩
 ·refine kB <| jA <| kx [(2, (vl 152 1 jC l))] [] (zM <| zM <| zZ) ?_
  refine jJ ⟨_, (.tmp (d := (.sl 152 1 (List.map jC l))) rfl .nil), ?_⟩
  rw [trim_end hl hv h2]; rfl
theorem t_plus (a b : List Nat) (hda : Dig a) (hdb : Dig b) (hla : a.length ≤ 8796093022208) (hlb : b.length ≤ 8796093022208) : kH Tryz.prog 193 [(.sl 152 1 (List.map jC a)), (.sl 152 1 (List.map jC b))] (.sl 152 1 (List.map jC (ofNat (val a + val b)))) := by
 refine jP Tryz.func193 rfl cb193 rfl ?_
 show uK _ _ _ _ ⟨[(0, (vl 152 1 jC a)), (1, (vl 152 1 jC b))], []⟩
 refine jA <| kx [] [] (zE (oNl 152 1) <| zZ) ?_
 refine jA <| kx [(5, (.own 0 152 1 ((max a.length b.length) + 1)))] [(0, some (bm jC (List.replicate ((max a.length b.length) + 1) 0)))] (zM <| zE (dD kY) <| zM <| zE (dD kY) <| zE (oMx (max a.length b.length)) <| zE (qP ((max a.length b.length) + 1)) <| zN (oMk 0 jC (0 : Nat) ((max a.length b.length) + 1) ((max a.length b.length) + 1) kY xK gI cD) <| zM <| zZ) ?_
 refine jA <| kx [(6, (aL 0))] [] (zM <| zZ) ?_
 refine jA <| jA <| kx [(17, (kD ((max a.length b.length) + 1))), (18, (kD 0))] [] (zM <| zE (oLo kY) <| zM <| zZ) ?_
 refine jF <| uT (α := Nat × List Nat × Nat) (fun (i, out, c) => ⟨[(0, (vl 152 1 jC a)), (1, (vl 152 1 jC b)), (5, (.own 0 152 1 ((max a.length b.length) + 1))), (6, (aL c)), (17, (kD ((max a.length b.length) + 1))), (18, (kD i))], [(0, some (bm jC out))]⟩) (fun (i, out, c) => out.length = max a.length b.length + 1 ∧ Dig out ∧ i ≤ max a.length b.length + 1 ∧ c ≤ 1 ∧ val (out.take i) + pw i * c = val (a.take i) + val (b.take i)) (fun (i, out, c) => max a.length b.length + 1 - i) (0, List.replicate (max a.length b.length + 1) 0, 0) wk ⟨by simp, yD _, Nat.zero_le _, Nat.zero_le _, by simp [val]⟩ ?_
 rintro ⟨i, out, c⟩ ⟨vP, hdo, hi, hc, hv⟩
 have hai := hda.getD i
 have hbi := hdb.getD i
 refine jA <| kx [(19, (vb (decide (((i : Nat) : Int) < ((((max a.length b.length) + 1) : Nat) : Int)))))] [] (zE qI <| zZ) ?_
 refine jA <| jV rfl (fun h1 => ?_) (fun h1 => ?_)
 ·replace h1 := of_decide_eq_true h1
  refine jE <| jA <| jF <| jA <| kx [(7, (kD i))] [] (zM <| zM <| zZ) ?_
  refine jA <| kx [(8, (aL (((a.getD i 0) + (b.getD i 0)) + c)))] [] (zM <| zM <| zE (kA (t_at a i)) <| zM <| zM <| zE (kA (t_at b i)) <| zE (qP ((a.getD i 0) + (b.getD i 0))) <| zM <| zE (qP (((a.getD i 0) + (b.getD i 0)) + c)) <| zM <| zZ) ?_
  refine jA <| kx [(6, (aL 0))] [] (zM <| zZ) ?_
  refine jA <| jA <| kx [(31, (vb (decide (1000000000 ≤ (((((a.getD i 0) + (b.getD i 0)) + c) : Nat) : Int)))))] [] (zM <| zE oGe <| zZ) ?_
  refine jV rfl (fun h2 => ?_) (fun h2 => ?_)
  ·replace h2 := of_decide_eq_true h2
   refine kx [(6, (aL 1)), (8, (aL ((((a.getD i 0) + (b.getD i 0)) + c) - 1000000000)))] [] (zM <| zE (oSb ((((a.getD i 0) + (b.getD i 0)) + c) - 1000000000)) <| zM <| zM <| zZ) ?_
   refine kx [] [(0, some (bm jC (out.set i ((((a.getD i 0) + (b.getD i 0)) + c) - 1000000000))))] (zM <| zM <| zM <| zE (oXo kY i) <| zT (oSp uG i ((((a.getD i 0) + (b.getD i 0)) + c) - 1000000000)) <| zZ) ?_
   refine kx [(18, (kD (i + 1)))] [] (zE (qP (i + 1)) <| zM <| zZ) ?_
   exact ⟨(i + 1, out.set i (a.getD i 0 + b.getD i 0 + c - 1000000000), 1), wk, (by obtain ⟨q1, q2, q3⟩ := plus_step (s := a.getD i 0 + b.getD i 0 + c - 1000000000) (c' := 1) vP hdo (by omega) hv (by omega) (by omega); exact ⟨q1, q2, by omega, by omega, q3⟩), (by first | omega | (dsimp only; omega))⟩
  ·replace h2 := of_decide_eq_false h2
   refine jE <| kx [] [(0, some (bm jC (out.set i (((a.getD i 0) + (b.getD i 0)) + c))))] (zM <| zM <| zM <| zE (oXo kY i) <| zT (oSp uG i (((a.getD i 0) + (b.getD i 0)) + c)) <| zZ) ?_
   refine kx [(18, (kD (i + 1)))] [] (zE (qP (i + 1)) <| zM <| zZ) ?_
   exact ⟨(i + 1, out.set i (a.getD i 0 + b.getD i 0 + c), 0), wk, (by obtain ⟨q1, q2, q3⟩ := plus_step (s := a.getD i 0 + b.getD i 0 + c) (c' := 0) vP hdo (by omega) hv (by omega) (by omega); exact ⟨q1, q2, by omega, by omega, q3⟩), (by first | omega | (dsimp only; omega))⟩
 ·replace h1 := of_decide_eq_false h1
  have hie : i = max a.length b.length + 1 := by omega
  rw [hie] at hv
  refine kB <| jA <| kJ (uV (t := 5) (k := 0) (es := List.map jC out) rfl rfl (vK _ _ (fun _ => rfl)) (uS _ _ vP) (xG _ _ (fun _ => rfl) vP)) ?_
  refine kx [(4, (vl 152 1 jC (ofNat (val out))))] [] (zM <| zE (kA (t_trim out (by assumption) (by omega))) <| zM <| zZ) ?_
  refine jJ ⟨_, (.tmp (d := (.sl 152 1 (List.map jC (ofNat (val out))))) rfl .nil), ?_⟩
  rw [plus_end hda hdb vP hv]; rfl
theorem t_minus (a b : List Nat) (hda : Dig a) (hdb : Dig b) (hba : val b ≤ val a) (hla : a.length ≤ 8796093022208) : kH Tryz.prog 194 [(.sl 152 1 (List.map jC a)), (.sl 152 1 (List.map jC b))] (.sl 152 1 (List.map jC (ofNat (val a - val b)))) := by
 refine jP Tryz.func194 rfl cb194 rfl ?_
 show uK _ _ _ _ ⟨[(0, (vl 152 1 jC a)), (1, (vl 152 1 jC b))], []⟩
 refine jA <| kx [] [] (zE (oNl 152 1) <| zZ) ?_
 refine jA <| kx [(5, (.own 0 152 1 a.length))] [(0, some (bm jC (List.replicate a.length 0)))] (zM <| zE (dD kY) <| zN (oMk 0 jC (0 : Nat) a.length a.length kY xK gI cD) <| zM <| zZ) ?_
 refine jA <| kx [(6, (aL 0))] [] (zM <| zZ) ?_
 refine jA <| jA <| kx [(13, (kD a.length)), (14, (kD 0))] [] (zM <| zE (oLo kY) <| zM <| zZ) ?_
 refine jF <| uT (α := Nat × List Nat × Nat) (fun (i, out, c) => ⟨[(0, (vl 152 1 jC a)), (1, (vl 152 1 jC b)), (5, (.own 0 152 1 a.length)), (6, (aL c)), (13, (kD a.length)), (14, (kD i))], [(0, some (bm jC out))]⟩) (fun (i, out, c) => out.length = a.length ∧ Dig out ∧ i ≤ a.length ∧ c ≤ 1 ∧ val (out.take i) + val (b.take i) = val (a.take i) + pw i * c) (fun (i, out, c) => a.length - i) (0, List.replicate a.length 0, 0) wk ⟨by simp, yD _, Nat.zero_le _, Nat.zero_le _, by simp [val]⟩ ?_
 rintro ⟨i, out, c⟩ ⟨vP, hdo, hi, hc, hv⟩
 have hai := hda.getD i
 have hbi := hdb.getD i
 refine jA <| kx [(15, (vb (decide (((i : Nat) : Int) < ((a.length : Nat) : Int)))))] [] (zE qI <| zZ) ?_
 refine jA <| jV rfl (fun h1 => ?_) (fun h1 => ?_)
 ·replace h1 := of_decide_eq_true h1
  refine jE <| jA <| jF <| jA <| kx [(7, (kD i))] [] (zM <| zM <| zZ) ?_
  refine jA <| kx [(8, (aL ((b.getD i 0) + c)))] [] (zM <| zM <| zE (kA (t_at b i)) <| zM <| zE (qP ((b.getD i 0) + c)) <| zM <| zZ) ?_
  refine jA <| kx [(6, (aL 0))] [] (zM <| zZ) ?_
  refine jA <| kx [(27, (vb (decide ((((a.getD i 0) : Nat) : Int) < ((((b.getD i 0) + c) : Nat) : Int)))))] [] (zM <| zM <| zE (oXl kY i (0 : Nat)) <| zE (xX uG) <| zM <| zE qI <| zZ) ?_
  refine jV rfl (fun h2 => ?_) (fun h2 => ?_)
  ·replace h2 := of_decide_eq_true h2
   refine kx [(6, (aL 1))] [(0, some (bm jC (out.set i (((a.getD i 0) + 1000000000) - ((b.getD i 0) + c)))))] (zM <| zM <| zM <| zM <| zE (oXl kY i (0 : Nat)) <| zE (xX uG) <| zE (qP ((a.getD i 0) + 1000000000)) <| zM <| zE (oSb (((a.getD i 0) + 1000000000) - ((b.getD i 0) + c))) <| zE (oXo kY i) <| zT (oSp uG i (((a.getD i 0) + 1000000000) - ((b.getD i 0) + c))) <| zM <| zZ) ?_
   refine kx [(14, (kD (i + 1)))] [] (zE (qP (i + 1)) <| zM <| zZ) ?_
   exact ⟨(i + 1, out.set i (a.getD i 0 + 1000000000 - (b.getD i 0 + c)), 1), wk, (by obtain ⟨q1, q2, q3⟩ := minus_step (s := a.getD i 0 + 1000000000 - (b.getD i 0 + c)) (c' := 1) vP hdo (by omega) hv (by omega) (by omega); exact ⟨q1, q2, by omega, by omega, q3⟩), (by first | omega | (dsimp only; omega))⟩
  ·replace h2 := of_decide_eq_false h2
   refine kx [] [(0, some (bm jC (out.set i ((a.getD i 0) - ((b.getD i 0) + c)))))] (zM <| zM <| zM <| zM <| zE (oXl kY i (0 : Nat)) <| zE (xX uG) <| zM <| zE (oSb ((a.getD i 0) - ((b.getD i 0) + c))) <| zE (oXo kY i) <| zT (oSp uG i ((a.getD i 0) - ((b.getD i 0) + c))) <| zZ) ?_
   refine kx [(14, (kD (i + 1)))] [] (zE (qP (i + 1)) <| zM <| zZ) ?_
   exact ⟨(i + 1, out.set i (a.getD i 0 - (b.getD i 0 + c)), 0), wk, (by obtain ⟨q1, q2, q3⟩ := minus_step (s := a.getD i 0 - (b.getD i 0 + c)) (c' := 0) vP hdo (by omega) hv (by omega) (by omega); exact ⟨q1, q2, by omega, by omega, q3⟩), (by first | omega | (dsimp only; omega))⟩
 ·replace h1 := of_decide_eq_false h1
  have hie : i = a.length := by omega
  rw [hie] at hv
  refine kB <| jA <| kJ (uV (t := 5) (k := 0) (es := List.map jC out) rfl rfl (vK _ _ (fun _ => rfl)) (uS _ _ vP) (xG _ _ (fun _ => rfl) vP)) ?_
  refine kx [(4, (vl 152 1 jC (ofNat (val out))))] [] (zM <| zE (kA (t_trim out (by assumption) (by omega))) <| zM <| zZ) ?_
  refine jJ ⟨_, (.tmp (d := (.sl 152 1 (List.map jC (ofNat (val out))))) rfl .nil), ?_⟩
  rw [minus_end hda hdb hdo hba vP hv]; rfl
theorem t_times (a b : List Nat) (hda : Dig a) (hdb : Dig b) (hla : a.length ≤ 4398046511104) (hlb : b.length ≤ 4398046511104) : kH Tryz.prog 179 [(.sl 152 1 (List.map jC a)), (.sl 152 1 (List.map jC b))] (.sl 152 1 (List.map jC (ofNat (val a * val b)))) := by
 refine jP Tryz.func179 rfl cb179 rfl ?_
 show uK _ _ _ _ ⟨[(0, (vl 152 1 jC a)), (1, (vl 152 1 jC b))], []⟩
 refine jA <| kx [] [] (zE (oNl 152 1) <| zZ) ?_
 refine jA <| kx [(5, (.own 0 152 1 (a.length + b.length)))] [(0, some (bm jC (List.replicate (a.length + b.length) 0)))] (zM <| zE (dD kY) <| zM <| zE (dD kY) <| zE (qP (a.length + b.length)) <| zN (oMk 0 jC (0 : Nat) (a.length + b.length) (a.length + b.length) kY xK gI cD) <| zM <| zZ) ?_
 refine jA <| jA <| kx [(18, (vl 152 1 jC a)), (19, (kD a.length)), (20, (kD 0))] [] (zM <| zE (dD kY) <| zM <| zZ) ?_
 refine jF <| uT (α := Nat × List Nat) (fun (i, out) => ⟨[(1, (vl 152 1 jC b)), (5, (.own 0 152 1 (a.length + b.length))), (18, (vl 152 1 jC a)), (19, (kD a.length)), (20, (kD i))], [(0, some (bm jC out))]⟩) (fun (i, out) => out.length = a.length + b.length ∧ Dig out ∧ i ≤ a.length ∧ (∀ k, i + b.length ≤ k → out.getD k 0 = 0) ∧ val out = val (a.take i) * val b) (fun (i, out) => a.length - i) (0, List.replicate (a.length + b.length) 0) wk ⟨by simp, yD _, Nat.zero_le _, fun k _ => aK _ k, by simp [val, eX]⟩ ?_
 rintro ⟨i, out⟩ ⟨vP, hdo, hi, hz, hv⟩
 have hai := hda.getD i
 refine jA <| kx [(21, (vb (decide (((i : Nat) : Int) < ((a.length : Nat) : Int)))))] [] (zE qI <| zZ) ?_
 refine jA <| jV rfl (fun h1 => ?_) (fun h1 => ?_)
 ·replace h1 := of_decide_eq_true h1
  refine jE <| jA <| jF <| jA <| kx [(6, (kD i)), (7, (aL (a.getD i 0)))] [] (zM <| zE (oXl kY i (0 : Nat)) <| zE (xX uG) <| zM <| zM <| zZ) ?_
  refine jA <| kx [(8, (gO 0))] [] (zM <| zZ) ?_
  refine jA <| jA <| kx [(25, (vl 152 1 jC b)), (26, (kD b.length)), (27, (kD 0))] [] (zM <| zE (dD kY) <| zM <| zZ) ?_
  refine jF <| uT (α := Nat × List Nat × Nat) (fun (j, o2, c) => ⟨[(1, (vl 152 1 jC b)), (5, (.own 0 152 1 (a.length + b.length))), (6, (kD i)), (7, (aL (a.getD i 0))), (8, (gO c)), (18, (vl 152 1 jC a)), (19, (kD a.length)), (20, (kD i)), (25, (vl 152 1 jC b)), (26, (kD b.length)), (27, (kD j))], [(0, some (bm jC o2))]⟩) (fun (j, o2, c) => o2.length = a.length + b.length ∧ Dig o2 ∧ j ≤ b.length ∧ c < 1000000000 ∧ (∀ k, i + b.length ≤ k → o2.getD k 0 = 0) ∧ val o2 + pw (i + j) * c = val (a.take i) * val b + pw i * (a.getD i 0 * val (b.take j))) (fun (j, o2, c) => b.length - j) (0, out, 0) wk ⟨vP, hdo, Nat.zero_le _, by decide, hz, by simp [val, hv]⟩ ?_
  rintro ⟨j, o2, c⟩ ⟨hlen2, hdo2, hj, hc, hz2, hv2⟩
  have hbj := hdb.getD j
  have hoj := hdo2.getD (i + j)
  have hpq : a.getD i 0 * b.getD j 0 ≤ 999999999 * 999999999 := Nat.mul_le_mul (by omega) (by omega)
  refine jA <| kx [(28, (vb (decide (((j : Nat) : Int) < ((b.length : Nat) : Int)))))] [] (zE qI <| zZ) ?_
  refine jA <| jV rfl (fun h2 => ?_) (fun h2 => ?_)
  ·replace h2 := of_decide_eq_true h2
   refine jE <| jA <| jF <| jA <| kx [(9, (kD j)), (10, (aL (b.getD j 0)))] [] (zM <| zE (oXl kY j (0 : Nat)) <| zE (xX uG) <| zM <| zM <| zZ) ?_
   refine jA <| kx [(11, (gO (((o2.getD (i + j) 0) + ((a.getD i 0) * (b.getD j 0))) + c)))] [] (zM <| zM <| zM <| zE (qP (i + j)) <| zE (oXo kY (i + j)) <| zR (oLp uG (i + j) (0 : Nat)) <| zE (cZ gK yY (o2.getD (i + j) 0)) <| zM <| zE (cZ gK yY (a.getD i 0)) <| zM <| zE (cZ gK yY (b.getD j 0)) <| zE (oMl ((a.getD i 0) * (b.getD j 0))) <| zE (qP ((o2.getD (i + j) 0) + ((a.getD i 0) * (b.getD j 0)))) <| zM <| zE (qP (((o2.getD (i + j) 0) + ((a.getD i 0) * (b.getD j 0))) + c)) <| zM <| zZ) ?_
   refine kx [(8, (gO ((((o2.getD (i + j) 0) + ((a.getD i 0) * (b.getD j 0))) + c) / 1000000000)))] [(0, some (bm jC (o2.set (i + j) ((((o2.getD (i + j) 0) + ((a.getD i 0) * (b.getD j 0))) + c) % 1000000000))))] (zM <| zM <| zM <| zE (qP (i + j)) <| zM <| zE (iM ((((o2.getD (i + j) 0) + ((a.getD i 0) * (b.getD j 0))) + c) % 1000000000)) <| zE (cZ nW gW ((((o2.getD (i + j) 0) + ((a.getD i 0) * (b.getD j 0))) + c) % 1000000000)) <| zM <| zE (oQu ((((o2.getD (i + j) 0) + ((a.getD i 0) * (b.getD j 0))) + c) / 1000000000)) <| zE (oXo kY (i + j)) <| zT (oSp uG (i + j) ((((o2.getD (i + j) 0) + ((a.getD i 0) * (b.getD j 0))) + c) % 1000000000)) <| zM <| zZ) ?_
   refine kx [(27, (kD (j + 1)))] [] (zE (qP (j + 1)) <| zM <| zZ) ?_
   exact ⟨(j + 1, o2.set (i + j) ((o2.getD (i + j) 0 + a.getD i 0 * b.getD j 0 + c) % 1000000000), (o2.getD (i + j) 0 + a.getD i 0 * b.getD j 0 + c) / 1000000000), wk, (by obtain ⟨q1, q2⟩ := times_step (by omega) hdo2 hv2 rfl (val_take_succ b j); exact ⟨by simpa using hlen2, q1, by omega, by omega, zero_set (by omega) hz2, q2⟩), (by first | omega | (dsimp only; omega))⟩
  ·replace h2 := of_decide_eq_false h2
   have hje : j = b.length := by omega
   rw [hje] at hv2
   refine kB <| kx [] [(0, some (bm jC (o2.set (i + b.length) c)))] (zM <| zM <| zM <| zE (dD kY) <| zE (qP (i + b.length)) <| zM <| zE (cZ nW gW c) <| zE (oXo kY (i + b.length)) <| zT (oSp uG (i + b.length) c) <| zZ) ?_
   refine kx [(20, (kD (i + 1)))] [] (zE (qP (i + 1)) <| zM <| zZ) ?_
   exact ⟨(i + 1, o2.set (i + b.length) c), wk, (by obtain ⟨q1, q2, q3, q4⟩ := times_row hdo2 (by omega) hlen2 hz2 hc hv2; exact ⟨q1, q2, by omega, q3, q4⟩), (by first | omega | (dsimp only; omega))⟩
 ·replace h1 := of_decide_eq_false h1
  have hie : i = a.length := by omega
  rw [hie, List.take_length] at hv
  refine kB <| jA <| kJ (uV (t := 5) (k := 0) (es := List.map jC out) rfl rfl (vK _ _ (fun _ => rfl)) (uS _ _ vP) (xG _ _ (fun _ => rfl) vP)) ?_
  refine kx [(4, (vl 152 1 jC (ofNat (val out))))] [] (zM <| zE (kA (t_trim out (by assumption) (by omega))) <| zM <| zZ) ?_
  refine jJ ⟨_, (.tmp (d := (.sl 152 1 (List.map jC (ofNat (val out))))) rfl .nil), ?_⟩
  rw [hv]; rfl
end Go.Proofs.YtbecgnplakngdaaGreat
namespace Go.Proofs.YtbecgnplakngdaaGreat
open Go.RowKit Go.Shelf
attribute [local go_sem] Oper.semAt_some
set_option maxRecDepth 100000 in
set_option maxHeartbeats 2000000 in
theorem back1 (N l Bs b off len cap : Nat) (u : Nat → Value) (vP : (len : Int) ≤ 9223372036854775807) (J : Nat → World → Prop) (Jx : World → Prop)
    (hc : ∀ j W, J j W → W.cell? ⟨Bs, 0, none⟩ = some (.slice (some ⟨b, off, none⟩) len cap) ∧ ∀ i, i < len → W.cell? ⟨b, off + i, none⟩ = some (u i))
    (hY : ∀ j W, J j W → j < len → YieldAt Fence.wide N Tryz.prog l #[.int .i64 ((len : Int) - 1 - (j : Int)), u (len - 1 - j)] W fun e W' =>
      (e = .returned (.bool true) ∧ J (j + 1) W') ∨ (e = .returned (.bool false) ∧ Jx W'))
    (W : World) (h0 : J 0 W) :
    CallsIn Fence.wide (N + 1) Tryz.prog 203 #[.func (.yield l) #[] #[], .pointer (some ⟨Bs, 0, none⟩)] W fun e W' => (∃ v, e = .returned v) ∧ (J len W' ∨ Jx W') := by
  refine callsIn_of_wp Tryz.func203 rfl trivial ?_ rfl
  simp only [Tryz.ntmps203, List.size_toArray, List.length_cons, List.length_nil, Nat.reduceAdd, Nat.reduceSub, Array.replicate_succ, Array.replicate_zero, List.push_toArray, List.append_toArray, List.nil_append, List.cons_append]
  have hBs := (hc 0 W h0).1
  gi_wp2
  gi_loopw [3] (fun i wr => ∃ j : Nat, j ≤ len ∧ i = .int .i64 ((len : Int) - 1 - (j : Int)) ∧ J j wr)
    (fun i _ => (intOf i + 1).toNat)
  case atStart => exact ⟨0, Nat.zero_le _, by simp, h0⟩
  case round =>
    obtain ⟨j, hk, rfl, hJs⟩ := hrel
    have hBj := (hc j wr hJs).1
    by_cases hlt : j < len
    · have hcj := (hc j wr hJs).2 (len - 1 - j) (by omega)
      obtain ⟨fn, tmps, assign, body, hy, hR⟩ := hY j wr hJs hlt
      gi_wp2
      refine hR.mono ?_
      rintro e W3 (⟨rfl, hJ3⟩ | ⟨rfl, hJx3⟩)
      · gi_wp2
        go_roundw
        case rel => exact ⟨j + 1, by omega, by simp; omega, hJ3⟩
        case measure => simp [intOf]; omega
      · gi_wp2
        refine bodyPost_ret (results_none rfl _ _ _) rfl ?_
        exact ⟨⟨_, rfl⟩, .inr hJx3⟩
    · obtain rfl : j = len := by omega
      gi_wp2
      go_end0
      exact ⟨⟨_, rfl⟩, .inl hJs⟩
set_option maxRecDepth 100000 in
set_option maxHeartbeats 2000000 in
theorem back1_nil (N l Bs cap : Nat) (ao : Option Addr) (J : World → Prop) (W : World) (hBs : W.cell? ⟨Bs, 0, none⟩ = some (.slice ao 0 cap)) (h0 : J W) :
    CallsIn Fence.wide (N + 1) Tryz.prog 203 #[.func (.yield l) #[] #[], .pointer (some ⟨Bs, 0, none⟩)] W fun e W' => (∃ v, e = .returned v) ∧ J W' := by
  refine callsIn_of_wp Tryz.func203 rfl trivial ?_ rfl
  simp only [Tryz.ntmps203, List.size_toArray, List.length_cons, List.length_nil, Nat.reduceAdd, Nat.reduceSub, Array.replicate_succ, Array.replicate_zero, List.push_toArray, List.append_toArray, List.nil_append, List.cons_append]
  gi_wp2
  gi_loopw [3] (fun i wr => i = .int .i64 (-1) ∧ J wr) (fun _ _ => 0)
  case atStart => exact ⟨by simp, h0⟩
  case round =>
    obtain ⟨rfl, hJs⟩ := hrel
    gi_wp2
    go_end0
    exact ⟨⟨_, rfl⟩, hJs⟩
set_option maxHeartbeats 1000000 in
theorem back_in (a : Option Addr) (len cap : Nat) (w : World) :
    Calls Tryz.prog 166 #[.slice a len cap] w fun e w' => e = .returned (.func (.func 203) #[] #[.pointer (some ⟨w.heap.size, 0, none⟩)]) ∧ w' = w.alloc (.cells #[.slice a len cap] 38) := by
  refine (callsIn_wide (n := 1)).1 (callsIn_of_wp Tryz.func166 rfl trivial ?_ rfl)
  simp only [Tryz.ntmps166, List.size_toArray, List.length_cons, List.length_nil, Nat.reduceAdd, Nat.reduceSub, Array.replicate_succ, Array.replicate_zero, List.push_toArray, List.append_toArray, List.nil_append, List.cons_append]
  gi_wp2
  go_ret
  exact ⟨rfl, rfl⟩
theorem backs : Go.Fid.Backs Tryz.prog 166 203 38 := ⟨back_in, back1_nil, fun N l c b off len cap u vP J Jx hc hY W h0 => back1 N l c b off len cap u vP J Jx hc hY W h0, enters_of Tryz.func203 (by kernel_rfl) rfl⟩
end Go.Proofs.YtbecgnplakngdaaGreat
namespace Go.Proofs.YtbecgnplakngdaaGreat
open Go.Fid
set_option maxRecDepth 4000
set_option linter.unusedVariables false
set_option linter.unusedSimpArgs false
theorem cb166 : callB Tryz.prog 166 = true := by kernel_rfl
theorem cb178 : callB Tryz.prog 178 = true := by kernel_rfl
theorem cb180 : callB Tryz.prog 180 = true := by kernel_rfl
theorem cb183 : callB Tryz.prog 183 = true := by kernel_rfl
theorem cb184 : callB Tryz.prog 184 = true := by kernel_rfl
theorem cb185 : callB Tryz.prog 185 = true := by kernel_rfl
theorem cb208 : callB Tryz.prog 208 = true := by kernel_rfl
theorem cb209 : callB Tryz.prog 209 = true := by kernel_rfl
theorem cb218 : callB Tryz.prog 218 = true := by kernel_rfl
theorem pl40 : cY Tryz.prog 40 = some [(0, 1), (1, 1)] := by kernel_rfl
theorem uQ : qY Tryz.prog 3 = some (false, 1) := by kernel_rfl
theorem gL : qY Tryz.prog 38 = some (false, 1) := by kernel_rfl
theorem kK : qY Tryz.prog 40 = some (true, 2) := by kernel_rfl
theorem sh154 : qY Tryz.prog 154 = some (false, 1) := by kernel_rfl
theorem ze3 : xJ Tryz.prog 3 = some [.int .i64 0] := by kernel_rfl
theorem nN : xJ Tryz.prog 40 = some [.bool false, .slice none 0 0] := by kernel_rfl
theorem ze154 : xJ Tryz.prog 154 = some [.int .u64 0] := by kernel_rfl
theorem zo3 : dB [.int .i64 0] [.val (.int .i64 0)] := by simp [dB, Value.oneCell']
theorem nR : dB [.bool false, .slice none 0 0] [.val (.bool false), .sl 152 1 []] := by simp [dB, Value.oneCell']
theorem zo154 : dB [.int .u64 0] [.val (.int .u64 0)] := by simp [dB, Value.oneCell']
theorem t_isnan_int (a : Int) : kH Tryz.prog 208 [(.val (.int .i64 (a)))] (.val (.bool (false))) := by
 refine jP Tryz.func208 rfl cb208 rfl ?_
 show uK _ _ _ _ ⟨[(0, (vi a))], []⟩
 refine jA <| kx [] [] (zM <| zZ) ?_
 refine jA <| kx [(2, (vb (a != a)))] [] (zM <| zM <| zE mE <| zM <| zZ) ?_
 refine jJ ⟨_, (.tmp (d := (.val (.bool ((a != a))))) rfl .nil), ?_⟩
 simp [retD]
theorem t_cmp_int (a b : Int) : kH Tryz.prog 183 [(.val (.int .i64 (a))), (.val (.int .i64 (b)))] (.val (.int .i64 ((xE a b)))) := by
 refine jP Tryz.func183 rfl cb183 rfl ?_
 show uK _ _ _ _ ⟨[(0, (vi a)), (1, (vi b))], []⟩
 refine jA <| kx [] [] (zM <| zZ) ?_
 refine jA <| kx [(5, (vb false))] [] (zM <| zE (kA (t_isnan_int a)) <| zM <| zZ) ?_
 refine jA <| kx [(6, (vb false))] [] (zM <| zE (kA (t_isnan_int b)) <| zM <| zZ) ?_
 refine jA <| jA <| kx [(11, (vb false))] [] (zM <| zZ) ?_
 refine kG ?_
 refine jE <| jA <| jA <| kx [(13, (vb false))] [] (zM <| zZ) ?_
 refine kG ?_
 refine jE <| jA <| jA <| kx [(16, (vb (decide (a < b))))] [] (zM <| zM <| zE qI <| zZ) ?_
 refine jV (b := decide (a < b)) rfl (fun h1 => ?_) (fun h1 => ?_)
 ·replace h1 := of_decide_eq_true h1
  refine jA <| kx [(4, (vi (-1)))] [] (zM <| zZ) ?_
  refine jJ ⟨_, (.tmp (d := (.val (.int .i64 (-1)))) rfl .nil), ?_⟩
  rw [show xE a b = -1 from if_pos h1]; rfl
 ·replace h1 := of_decide_eq_false h1
  refine jE <| jA <| jA <| kx [(19, (vb (decide (b < a))))] [] (zM <| zM <| zE aG <| zZ) ?_
  refine jV (b := decide (b < a)) rfl (fun h2 => ?_) (fun h2 => ?_)
  ·replace h2 := of_decide_eq_true h2
   refine jA <| kx [(4, (kD 1))] [] (zM <| zZ) ?_
   refine jJ ⟨_, (.tmp (d := (.val (.int .i64 (1)))) rfl .nil), ?_⟩
   rw [bH h2]; rfl
  ·replace h2 := of_decide_eq_false h2
   refine jE <| jA <| kx [(4, (kD 0))] [] (zM <| zZ) ?_
   refine jJ ⟨_, (.tmp (d := (.val (.int .i64 (0)))) rfl .nil), ?_⟩
   rw [cmpI_eq h1 h2]; rfl
theorem t_isnan_uint32 (a : Nat) : kH Tryz.prog 218 [(.val (.int .u32 (((a : Nat) : Int))))] (.val (.bool (false))) := by
 refine jP Tryz.func218 rfl cb218 rfl ?_
 show uK _ _ _ _ ⟨[(0, (aL a))], []⟩
 refine jA <| kx [] [] (zM <| zZ) ?_
 refine jA <| kx [(2, (vb (((a : Nat) : Int) != ((a : Nat) : Int))))] [] (zM <| zM <| zE mE <| zM <| zZ) ?_
 refine jJ ⟨_, (.tmp (d := (.val (.bool ((((a : Nat) : Int) != ((a : Nat) : Int)))))) rfl .nil), ?_⟩
 simp [retD]
theorem t_cmp_uint32 (a b : Nat) : kH Tryz.prog 209 [(.val (.int .u32 (((a : Nat) : Int)))), (.val (.int .u32 (((b : Nat) : Int))))] (.val (.int .i64 ((xE ((a : Nat) : Int) ((b : Nat) : Int))))) := by
 refine jP Tryz.func209 rfl cb209 rfl ?_
 show uK _ _ _ _ ⟨[(0, (aL a)), (1, (aL b))], []⟩
 refine jA <| kx [] [] (zM <| zZ) ?_
 refine jA <| kx [(5, (vb false))] [] (zM <| zE (kA (t_isnan_uint32 a)) <| zM <| zZ) ?_
 refine jA <| kx [(6, (vb false))] [] (zM <| zE (kA (t_isnan_uint32 b)) <| zM <| zZ) ?_
 refine jA <| jA <| kx [(11, (vb false))] [] (zM <| zZ) ?_
 refine kG ?_
 refine jE <| jA <| jA <| kx [(13, (vb false))] [] (zM <| zZ) ?_
 refine kG ?_
 refine jE <| jA <| jA <| kx [(16, (vb (decide (((a : Nat) : Int) < ((b : Nat) : Int)))))] [] (zM <| zM <| zE qI <| zZ) ?_
 refine jV rfl (fun h1 => ?_) (fun h1 => ?_)
 ·replace h1 := of_decide_eq_true h1
  refine jA <| kx [(4, (vi (-1)))] [] (zM <| zZ) ?_
  refine jJ ⟨_, (.tmp (d := (.val (.int .i64 (-1)))) rfl .nil), ?_⟩
  rw [show xE ((a : Nat) : Int) ((b : Nat) : Int) = -1 from if_pos h1]; rfl
 ·replace h1 := of_decide_eq_false h1
  refine jE <| jA <| jA <| kx [(19, (vb (decide (((b : Nat) : Int) < ((a : Nat) : Int)))))] [] (zM <| zM <| zE aG <| zZ) ?_
  refine jV rfl (fun h2 => ?_) (fun h2 => ?_)
  ·replace h2 := of_decide_eq_true h2
   refine jA <| kx [(4, (kD 1))] [] (zM <| zZ) ?_
   refine jJ ⟨_, (.tmp (d := (.val (.int .i64 (1)))) rfl .nil), ?_⟩
   rw [bH h2]; rfl
  ·replace h2 := of_decide_eq_false h2
   refine jE <| jA <| kx [(4, (kD 0))] [] (zM <| zZ) ?_
   refine jJ ⟨_, (.tmp (d := (.val (.int .i64 (0)))) rfl .nil), ?_⟩
   rw [cmpI_eq h1 h2]; rfl
theorem eK (neg : Bool) (l : List Nat) (hd : Dig l) (hb : l.length ≤ 17592186044416) : kH Tryz.prog 178 [(.val (.bool (neg))), (.sl 152 1 (List.map jC l))] (jZ (zL neg (val l))) := by
 refine jP Tryz.func178 rfl cb178 rfl ?_
 show uK _ _ _ _ ⟨[(0, (vb neg)), (1, (vl 152 1 jC l))], []⟩
 refine jA <| kx [(4, (.ref 0 0))] [(0, some (bx (jZ (jK.mk false []))))] (zN (qW 0 nN nR) <| zZ) ?_
 refine jA <| kx [(1, (vl 152 1 jC (ofNat (val l))))] [] (zM <| zE (kA (t_trim l (by assumption) (by omega))) <| zM <| zZ) ?_
 refine jA <| jA <| kx [(9, (vb ((((ofNat (val l)).length : Nat) : Int) == 0)))] [] (zM <| zE (dD kY (L := (ofNat (val l)))) <| zE cB <| zZ) ?_
 refine jV rfl (fun h1 => ?_) (fun h1 => ?_)
 ·replace h1 := eq_of_beq h1
  refine jA <| kx [] [(0, some (bx (jZ (jK.mk false []))))] (zE (oBd pl40 nN nR) <| zT (kW kK) <| zZ) ?_
  refine jJ ⟨_, (qC (cs := (bx (jZ (jK.mk false [])))) (d := (jZ (jK.mk false []))) rfl rfl kK rfl rfl .nil), ?_⟩
  rw [mkI_zero h1]; rfl
 ·replace h1 := ne_of_beq_false h1
  refine jE <| jA <| kx [] [(0, some (bx (jZ (jK.mk neg (ofNat (val l))))))] (zM <| zM <| zE (oBd pl40 nN nR) <| zT (kW kK) <| zZ) ?_
  refine jJ ⟨_, (qC (cs := (bx (jZ (jK.mk neg (ofNat (val l)))))) (d := (jZ (jK.mk neg (ofNat (val l))))) rfl rfl kK rfl rfl .nil), ?_⟩
  rw [mkI_pos h1]; rfl
theorem t_word (l : List Nat) (hd : Dig l) : kH Tryz.prog 185 [(.sl 152 1 (List.map jC l))] (.tup [(.val (.int .u64 ((((yX l) : Nat) : Int)))), (.val (.bool ((cO l))))]) := by
 refine jP Tryz.func185 rfl cb185 rfl ?_
 show uK _ _ _ _ ⟨[(0, (vl 152 1 jC l))], []⟩
 refine jA <| kx [(2, (gO 0)), (3, (vb false))] [] (zM <| zM <| zZ) ?_
 refine jA <| jA <| kx [(9, (vb (decide (2 < ((l.length : Nat) : Int)))))] [] (zM <| zE (dD kY) <| zE aG <| zZ) ?_
 refine jV (b := decide (2 < ((l.length : Nat) : Int))) rfl (fun h1 => ?_) (fun h1 => ?_)
 ·replace h1 := of_decide_eq_true h1
  refine jA <| kx [(2, (gO 0)), (3, (vb false))] [] (zM <| zM <| zZ) ?_
  refine jJ ⟨_, (.tmp (d := (.val (.int .u64 (0)))) rfl (.tmp (d := (.val (.bool (false)))) rfl .nil)), ?_⟩
  rw [show yX l = 0 from if_neg (by omega), show cO l = false from decide_eq_false (by omega)]; rfl
 ·replace h1 := of_decide_eq_false h1
  have h2 : l.length ≤ 2 := by omega
  refine jE <| jA <| kx [(4, (.ref 0 0))] [(0, some (bx (.val (.int .u64 (0)))))] (zN (qW 0 ze154 zo154) <| zT (kW sh154) <| zZ) ?_
  refine jA <| pwp_backL backs cb166 rfl 5 jC l 0 (fun n => ⟨[(2, (gO 0)), (3, (vb false)), (4, (.ref 0 0))], [(0, some (bx (.val (.int .u64 (((n : Nat) : Int))))))]⟩) (fun (j : Nat) n => n = val (l.drop (l.length - j))) 0 rfl rfl rfl rfl rfl rfl rfl rfl rfl rfl rfl rfl (fun _ => rfl) (fun _ => rfl) wk (by simp [val]) (by omega) ?_ ?_
  ·rintro rl j n hj hn
   have hw := word_bound hd hj h2
   rw [← hn] at hw
   have hg := hd.getD (l.length - 1 - j)
   refine kx [(6, (aL (l.getD (l.length - 1 - j) 0)))] [] (zM <| zZ) ?_
   refine jF <| kx [] [(0, some (bx (.val (.int .u64 (((((n * 1000000000) + (l.getD (l.length - 1 - j) 0)) : Nat) : Int))))))] (zR (uF sh154) <| zE (oMl (n * 1000000000)) <| zM <| zE (cZ gK yY (l.getD (l.length - 1 - j) 0)) <| zE (qP ((n * 1000000000) + (l.getD (l.length - 1 - j) 0))) <| zT (kW sh154) <| zZ) ?_
   exact ⟨n * 1000000000 + l.getD (l.length - 1 - j) 0, wk, (by dsimp only; rw [iB l j hj, ← hn]; omega)⟩
  ·rintro n hn
   refine jA <| kx [(2, (gO n)), (3, (vb true))] [] (zR (uF sh154) <| zM <| zM <| zZ) ?_
   refine jJ ⟨_, (.tmp (d := (.val (.int .u64 (((n : Nat) : Int))))) rfl (.tmp (d := (.val (.bool (true)))) rfl .nil)), ?_⟩
   rw [show yX l = n by rw [hn, Nat.sub_self, List.drop_zero]; exact if_pos h2, show cO l = true from decide_eq_true h2]; rfl
theorem t_compare (a b : List Nat) (ha : gS a) (hb : gS b) (hla : a.length ≤ 17592186044416) : kH Tryz.prog 184 [(.sl 152 1 (List.map jC a)), (.sl 152 1 (List.map jC b))] (.val (.int .i64 ((xE ((val a : Nat) : Int) ((val b : Nat) : Int))))) := by
 refine jP Tryz.func184 rfl cb184 rfl ?_
 show uK _ _ _ _ ⟨[(0, (vl 152 1 jC a)), (1, (vl 152 1 jC b))], []⟩
 refine jA <| kx [(3, (.ref 0 0)), (4, (.ref 1 0))] [(0, some (bx (.sl 152 1 (List.map jC b)))), (1, some (bx (.val (.int .i64 (0)))))] (zN (vS 0) <| zN (qW 1 ze3 zo3) <| zZ) ?_
 refine jA <| jA <| kx [(11, (vb (((a.length : Nat) : Int) != ((b.length : Nat) : Int))))] [] (zM <| zE (dD kY) <| zR (uF gL) <| zE (dD kY) <| zE mE <| zZ) ?_
 refine jV rfl (fun h1 => ?_) (fun h1 => ?_)
 ·replace h1 := bne_iff_ne.1 h1
  refine jA <| kx [] [(1, some (bx (.val (.int .i64 ((xE ((a.length : Nat) : Int) ((b.length : Nat) : Int)))))))] (zM <| zE (dD kY) <| zR (uF gL) <| zE (dD kY) <| zE (kA (t_cmp_int ((a.length : Nat) : Int) ((b.length : Nat) : Int))) <| zT (kW uQ) <| zZ) ?_
  refine jJ ⟨_, (res_1 (cs := (bx (.val (.int .i64 ((xE ((a.length : Nat) : Int) ((b.length : Nat) : Int))))))) (d := (.val (.int .i64 ((xE ((a.length : Nat) : Int) ((b.length : Nat) : Int)))))) rfl rfl uQ rfl rfl .nil), ?_⟩
  rw [← cmpI_len ha hb h1]; rfl
 ·replace h1 := bne_eq_false_iff_eq.1 h1
  have hl : a.length = b.length := by omega
  refine jE <| jA <| pwp_backL backs cb166 rfl 5 jC a 0 (fun _ => ⟨[(3, (.ref 0 0)), (4, (.ref 1 0))], [(0, some (bx (.sl 152 1 (List.map jC b)))), (1, some (bx (.val (.int .i64 (0)))))]⟩) (fun (j : Nat) _ => val (a.drop (a.length - j)) = val (b.drop (a.length - j))) () rfl rfl rfl rfl rfl rfl rfl rfl rfl rfl rfl rfl (fun _ => rfl) (fun _ => rfl) wk (by rw [Nat.sub_zero, List.drop_length, hl, List.drop_length]) (by omega) ?_ ?_
  ·rintro rl j ⟨⟩ hj he
   refine jA <| kx [(5, (kD (a.length - 1 - j)))] [] (zM <| zZ) ?_
   refine kx [(6, (aL (a.getD (a.length - 1 - j) 0)))] [] (zM <| zZ) ?_
   refine jF <| jA <| kx [(26, (vb ((((a.getD (a.length - 1 - j) 0) : Nat) : Int) != (((b.getD (a.length - 1 - j) 0) : Nat) : Int))))] [] (zM <| zR (uF gL) <| zM <| zE (oXl kY (a.length - 1 - j) (0 : Nat)) <| zE (xX uG) <| zE mE <| zZ) ?_
   refine jV rfl (fun h2 => ?_) (fun h2 => ?_)
   ·replace h2 := bne_iff_ne.1 h2
    refine jA <| kx [] [(1, some (bx (.val (.int .i64 ((xE (((a.getD (a.length - 1 - j) 0) : Nat) : Int) (((b.getD (a.length - 1 - j) 0) : Nat) : Int)))))))] (zM <| zR (uF gL) <| zM <| zE (oXl kY (a.length - 1 - j) (0 : Nat)) <| zE (xX uG) <| zE (kA (t_cmp_uint32 (a.getD (a.length - 1 - j) 0) (b.getD (a.length - 1 - j) 0))) <| zT (kW uQ) <| zZ) ?_
    refine jJ ⟨⟨[(4, (.ref 1 0))], [(1, some (bx (.val (.int .i64 ((xE (((a.getD (a.length - 1 - j) 0) : Nat) : Int) (((b.getD (a.length - 1 - j) 0) : Nat) : Int)))))))]⟩, wk, keys_of rfl, ⟨_, (res_1 (cs := (bx (.val (.int .i64 ((xE (((a.getD (a.length - 1 - j) 0) : Nat) : Int) (((b.getD (a.length - 1 - j) 0) : Nat) : Int))))))) (d := (.val (.int .i64 ((xE (((a.getD (a.length - 1 - j) 0) : Nat) : Int) (((b.getD (a.length - 1 - j) 0) : Nat) : Int)))))) rfl rfl uQ rfl rfl .nil), ?_⟩⟩
    rw [← cmpI_top ha.1 hb.1 hl hj he h2]; rfl
   ·replace h2 := bne_eq_false_iff_eq.1 h2
    refine jE ?_
    exact ⟨(), wk, (by dsimp only; have e1 := iB a j hj; have e2 := iB b j (by omega); rw [← hl] at e2; rw [e1, e2, he]; omega)⟩
  ·rintro ⟨⟩ he
   refine jA <| kx [] [(1, some (bx (.val (.int .i64 (0)))))] (zT (kW uQ) <| zZ) ?_
   refine jJ ⟨_, (res_1 (cs := (bx (.val (.int .i64 (0))))) (d := (.val (.int .i64 (0)))) rfl rfl uQ rfl rfl .nil), ?_⟩
   rw [cmpI_same (by rw [Nat.sub_self, List.drop_zero, List.drop_zero] at he; exact he)]; rfl
theorem t_split (n : Nat) (hn : n < 18446744073709551616) : kH Tryz.prog 180 [(.val (.int .u64 (((n : Nat) : Int))))] (.sl 152 1 (List.map jC (ofNat n))) := by
 refine jP Tryz.func180 rfl cb180 rfl ?_
 show uK _ _ _ _ ⟨[(0, (gO n))], []⟩
 refine jA <| kx [] [] (zE (oNl 152 1) <| zZ) ?_
 refine jA <| kx [(3, (.own 0 152 1 0))] [(0, some (bm jC []))] (zO 0 152 1 <| zZ) ?_
 refine jA <| jF <| uT (α := Nat × List Nat) (fun (m, g) => ⟨[(0, (gO m)), (3, (.own 0 152 1 g.length))], [(0, some (bm jC g))]⟩) (fun (m, g) => m ≤ n ∧ g ++ ofNat m = ofNat n) (fun (m, g) => m) (n, []) wk ⟨Nat.le_refl _, by rw [List.nil_append]⟩ ?_
 rintro ⟨m, g⟩ ⟨hm, hg⟩
 have hl := split_len hg hn
 refine jA <| jA <| kx [(5, (vb (decide (0 < ((m : Nat) : Int)))))] [] (zM <| zE aG <| zZ) ?_
 refine jV (b := decide (0 < ((m : Nat) : Int))) rfl (fun h1 => ?_) (fun h1 => ?_)
 ·replace h1 := of_decide_eq_true h1
  refine jE <| jA <| jF <| kf [(3, (.own 0 152 1 ((g ++ [(m % 1000000000)]).length)))] [(0, some (bm jC (g ++ [(m % 1000000000)])))] (zM <| zM <| zE (iM (m % 1000000000)) <| zE (cZ nW gW (m % 1000000000)) <| zE (nO kY xK gI) <| zA jC g [(m % 1000000000)] rfl kY xK cD <| zM <| zF) ?_
  refine kx [(0, (gO (m / 1000000000)))] [] (zM <| zE (oQu (m / 1000000000)) <| zM <| zZ) ?_
  exact ⟨(m / 1000000000, g ++ [m % 1000000000]), wk, ⟨by omega, split_step hg h1⟩, (by first | omega | (dsimp only; omega))⟩
 ·replace h1 := of_decide_eq_false h1
  refine kB <| jA <| kJ (uV (t := 3) (k := 0) (es := List.map jC g) rfl rfl (vK _ _ (fun _ => rfl)) (uS _ _ rfl) (xG _ _ (fun _ => rfl) rfl)) ?_
  refine kx [(2, (vl 152 1 jC g))] [] (zM <| zM <| zZ) ?_
  refine jJ ⟨_, (.tmp (d := (.sl 152 1 (List.map jC g))) rfl .nil), ?_⟩
  rw [split_end hg h1]; rfl
end Go.Proofs.YtbecgnplakngdaaGreat
namespace Go.Proofs.YtbecgnplakngdaaGreat
open Go.Fid
set_option maxRecDepth 4000
set_option linter.unusedVariables false
set_option linter.unusedSimpArgs false
theorem cb143 : callB Tryz.prog 143 = true := by kernel_rfl
theorem cb165 : callB Tryz.prog 165 = true := by kernel_rfl
theorem cb181 : callB Tryz.prog 181 = true := by kernel_rfl
theorem cb182 : callB Tryz.prog 182 = true := by kernel_rfl
theorem cb187 : callB Tryz.prog 187 = true := by kernel_rfl
theorem cb207 : callB Tryz.prog 207 = true := by kernel_rfl
theorem zC : xH Tryz.prog 40 0 = some 0 := by kernel_rfl
theorem zW : xH Tryz.prog 40 1 = some 1 := by kernel_rfl
theorem sh4 : qY Tryz.prog 4 = some (false, 1) := by kernel_rfl
theorem t_big (a : Nat) : kH Tryz.prog 182 [(.val (.int .u32 (((a : Nat) : Int))))] (.val (.bool ((decide (1000000000 ≤ ((a : Nat) : Int)))))) := by
 refine jP Tryz.func182 rfl cb182 rfl ?_
 show uK _ _ _ _ ⟨[(0, (aL a))], []⟩
 refine jA <| kx [] [] (zM <| zZ) ?_
 refine jA <| kx [(2, (vb (decide (1000000000 ≤ ((a : Nat) : Int)))))] [] (zM <| zE oGe <| zM <| zZ) ?_
 refine jJ ⟨_, (.tmp (d := (.val (.bool (decide (1000000000 ≤ ((a : Nat) : Int)))))) rfl .nil), ?_⟩
 rfl
theorem t_index (l : List Nat) (hb : l.length ≤ 17592186044416) : kH Tryz.prog 207 [(.sl 152 1 (List.map jC l)), (.val (.func (.func 182) #[] #[]))] (.val (.int .i64 ((zU l)))) := by
 refine jP Tryz.func207 rfl cb207 rfl ?_
 show uK _ _ _ _ ⟨[(0, (vl 152 1 jC l)), (1, (.d (.val (.func (.func 182) #[] #[]))))], []⟩
 refine jA <| kx [] [] (zM <| zZ) ?_
 refine jA <| jA <| kx [(7, (kD l.length)), (8, (kD 0))] [] (zM <| zE (dD kY) <| zM <| zZ) ?_
 refine jF <| uT (α := Nat) (fun i => ⟨[(0, (vl 152 1 jC l)), (1, (.d (.val (.func (.func 182) #[] #[])))), (7, (kD l.length)), (8, (kD i))], []⟩) (fun i => i ≤ l.length ∧ Dig (l.take i)) (fun i => l.length - i) 0 wk ⟨Nat.zero_le _, nK⟩ ?_
 rintro i ⟨hi, hd⟩
 refine jA <| kx [(9, (vb (decide (((i : Nat) : Int) < ((l.length : Nat) : Int)))))] [] (zE qI <| zZ) ?_
 refine jA <| jV rfl (fun h1 => ?_) (fun h1 => ?_)
 ·replace h1 := of_decide_eq_true h1
  refine jE <| jA <| jF <| jA <| kx [(5, (kD i))] [] (zM <| zM <| zZ) ?_
  refine jA <| kx [(16, (vb (decide (1000000000 ≤ (((l.getD i 0) : Nat) : Int)))))] [] (zM <| zM <| zM <| zE (oXl kY i (0 : Nat)) <| zE (xX uG) <| zE (kA (t_big (l.getD i 0))) <| zZ) ?_
  refine jV rfl (fun h2 => ?_) (fun h2 => ?_)
  ·replace h2 := of_decide_eq_true h2
   refine jA <| kx [(4, (kD i))] [] (zM <| zM <| zZ) ?_
   refine jJ ⟨_, (.tmp (d := (.val (.int .i64 (((i : Nat) : Int))))) rfl .nil), ?_⟩
   rw [firstBig_at (by omega) hd (by omega)]; rfl
  ·replace h2 := of_decide_eq_false h2
   refine jE <| kx [(8, (kD (i + 1)))] [] (zE (qP (i + 1)) <| zM <| zZ) ?_
   exact ⟨(i + 1), wk, ⟨by omega, dig_take_succ (by omega) hd (by omega)⟩, (by omega)⟩
 ·replace h1 := of_decide_eq_false h1
  refine kB <| jA <| kx [(4, (vi (-1)))] [] (zM <| zZ) ?_
  refine jJ ⟨_, (.tmp (d := (.val (.int .i64 (-1)))) rfl .nil), ?_⟩
  rw [iT (by rw [List.take_of_length_le (by omega)] at hd; exact hd)]; rfl
theorem t_contains (l : List Nat) (hb : l.length ≤ 17592186044416) : kH Tryz.prog 181 [(.sl 152 1 (List.map jC l)), (.val (.func (.func 182) #[] #[]))] (.val (.bool ((decide (0 ≤ zU l))))) := by
 refine jP Tryz.func181 rfl cb181 rfl ?_
 show uK _ _ _ _ ⟨[(0, (vl 152 1 jC l)), (1, (.d (.val (.func (.func 182) #[] #[]))))], []⟩
 refine jA <| kx [] [] (zM <| zZ) ?_
 refine jA <| kx [(4, (vb (decide (0 ≤ (zU l)))))] [] (zM <| zM <| zE (kA (t_index l (by omega))) <| zE oGe <| zM <| zZ) ?_
 refine jJ ⟨_, (.tmp (d := (.val (.bool (decide (0 ≤ (zU l)))))) rfl .nil), ?_⟩
 rfl
theorem t_valid (x : jK) (hb : x.gs.length ≤ 17592186044416) : kH Tryz.prog 143 [(jZ x)] (.val (.bool ((vF x)))) := by
 refine jP Tryz.func143 rfl cb143 rfl ?_
 show uK _ _ _ _ ⟨[(0, (.d (jZ x)))], []⟩
 refine jA <| kx [(1, (.ref 0 0))] [(0, some (bx (jZ x)))] (zN (vS 0) <| zM <| zZ) ?_
 refine jA <| kx [(3, (kD x.gs.length))] [] (zE (kS zW) <| zR (uF gL) <| zE (dD kY) <| zM <| zZ) ?_
 refine jA <| jA <| kx [(8, (vb (((x.gs.length : Nat) : Int) == 0)))] [] (zM <| zE cB <| zZ) ?_
 refine jV (b := (((x.gs.length : Nat) : Int) == 0)) rfl (fun h1 => ?_) (fun h1 => ?_)
 ·replace h1 := eq_of_beq h1
  refine jA <| kx [(2, (vb (!x.neg)))] [] (zE (kS zC) <| zR (uF sh4) <| zE oNt <| zM <| zZ) ?_
  refine jJ ⟨_, (.tmp (d := (.val (.bool (!x.neg)))) rfl .nil), ?_⟩
  rw [show vF x = !x.neg from if_pos h1]; rfl
 ·replace h1 := ne_of_beq_false h1
  refine jE <| jA <| kx [(2, (vb (((((x.gs.getD (x.gs.length - 1) 0) : Nat) : Int) != 0) && !(decide (0 ≤ zU x.gs)))))] [] ?_ ?_
  ·refine zE (kS zW) <| zR (uF gL) <| zM <| zE (oSb (x.gs.length - 1)) <| zE (oXl kY (x.gs.length - 1) (0 : Nat)) <| zE (xX uG) <| zE mE <| zE (oV (vb ((((x.gs.getD (x.gs.length - 1) 0) : Nat) : Int) != 0)) (xI (by kernel_rfl))) <| ?_
   rcases hb2 : ((((x.gs.getD (x.gs.length - 1) 0) : Nat) : Int) != 0) with _ | _
   ·replace hb2 := bne_eq_false_iff_eq.1 hb2
    exact zK <| zK <| zK <| zK <| zE iL <| zM <| zZ
   ·replace hb2 := bne_iff_ne.1 hb2
    exact zE (kS zW) <| zR (uF gL) <| zE (kA (t_contains x.gs (by omega))) <| zE oNt <| zE oPa <| zM <| zZ
  refine jJ ⟨_, (.tmp (d := (.val (.bool ((((((x.gs.getD (x.gs.length - 1) 0) : Nat) : Int) != 0) && !(decide (0 ≤ zU x.gs))))))) rfl .nil), ?_⟩
  rw [show vF x = _ from if_neg h1]; rfl
theorem mA (x : jK) (hb : x.gs.length ≤ 17592186044416) : kH Tryz.prog 165 [(jZ x)] (.sl 152 1 (List.map jC (qB x))) := by
 refine jP Tryz.func165 rfl cb165 rfl ?_
 show uK _ _ _ _ ⟨[(0, (.d (jZ x)))], []⟩
 refine jA <| kx [(1, (.ref 0 0))] [(0, some (bx (jZ x)))] (zN (vS 0) <| zE (oNl 152 1) <| zZ) ?_
 refine jA <| jA <| kx [(5, (vb (!(vF x))))] [] (zR (kF kK) <| zE (kA (t_valid x (by omega))) <| zE oNt <| zZ) ?_
 refine jV (b := !(vF x)) rfl (fun h1 => ?_) (fun h1 => ?_)
 ·refine jA <| kx [(2, (vl 152 1 jC []))] [] (zE (oNl 152 1) <| zZ) ?_
  refine jJ ⟨_, (.tmp (d := (.sl 152 1 (List.map jC []))) rfl .nil), ?_⟩
  rw [show qB x = [] from if_neg (by simpa using h1)]; rfl
 ·refine jE <| jA <| kx [(2, (vl 152 1 jC x.gs))] [] (zE (kS zW) <| zR (uF gL) <| zM <| zZ) ?_
  refine jJ ⟨_, (.tmp (d := (.sl 152 1 (List.map jC x.gs))) rfl .nil), ?_⟩
  rw [show qB x = x.gs from if_pos (by simpa using h1)]; rfl
theorem t_clone (l : List Nat) (hb : l.length ≤ 17592186044416) : kH Tryz.prog 187 [(.sl 152 1 (List.map jC l))] (.sl 152 1 (List.map jC l)) := by
 refine jP Tryz.func187 rfl cb187 rfl ?_
 show uK _ _ _ _ ⟨[(0, (vl 152 1 jC l))], []⟩
 refine jA <| kx [] [] (zE (oNl 152 1) <| zZ) ?_
 refine jA <| jA <| pwp_nilq rfl rfl rfl rfl rfl rfl kY rfl rfl rfl (fun nb hnb => ?_)
 refine jV (b := nb) rfl (fun h1 => ?_) (fun h1 => ?_)
 ·refine jA <| kx [(2, (vl 152 1 jC []))] [] (zE (oNl 152 1) <| zZ) ?_
  refine jJ ⟨_, (.tmp (d := (.sl 152 1 (List.map jC []))) rfl .nil), ?_⟩
  rw [List.map_eq_nil_iff.1 (hnb h1)]; rfl
 ·refine jE <| jA <| kf [(2, (.own 0 152 1 (([] ++ l).length)))] [(0, some (bm jC ([] ++ l)))] (zN (oBo 0 kY xK gI) <| zM <| zA jC [] l rfl kY xK cD <| zM <| zF) ?_
  refine kJ (uV (t := 2) (k := 0) (es := List.map jC ([] ++ l)) rfl rfl (vK _ _ (fun _ => rfl)) (uS _ _ rfl) (xG _ _ (fun _ => rfl) rfl)) ?_
  refine jJ ⟨_, (.tmp (d := (.sl 152 1 (List.map jC ([] ++ l)))) rfl .nil), ?_⟩
  rfl
end Go.Proofs.YtbecgnplakngdaaGreat
