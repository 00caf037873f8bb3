/- Part 14 of a proof: rules, plain facts, and functions walked. -/
import Derived.Test.YtbecgnplakngdaaGreatM11
import Derived.Test.YtbecgnplakngdaaGreatM7
import Derived.Test.YtbecgnplakngdaaGreatM13
import Derived.Test.YtbecgnplakngdaaGreatChecked
import Derived.RangeFuncBox
import Derived.Shelf.Abstract
import Derived.OwnWalkIn
import Derived.TacticsInMore
import Derived.LoopNIn
import Derived.LoopIn
import Derived.Test.YtbecgnplakngdaaGreatM9
namespace Go.Proofs.YtbecgnplakngdaaGreat
open Go.Fid
set_option maxRecDepth 4000
set_option linter.unusedVariables false
set_option linter.unusedSimpArgs false
theorem nT : nQ Tryz.prog 152 = some 4 := by kernel_rfl
theorem cb179 : callB Tryz.prog 179 = true := by kernel_rfl
theorem cb193 : callB Tryz.prog 193 = true := by kernel_rfl
theorem cb194 : callB Tryz.prog 194 = true := by kernel_rfl
theorem cb206 : callB Tryz.prog 206 = true := by kernel_rfl
theorem cb213 : callB Tryz.prog 213 = true := by kernel_rfl
theorem kV : vX Tryz.prog 38 = some (152, 1) := by kernel_rfl
theorem hH : intB Tryz.prog 152 = some .u32 := by kernel_rfl
theorem gA : intB Tryz.prog 154 = some .u64 := by kernel_rfl
theorem uR : uF Tryz.prog 152 = some (false, 1) := by kernel_rfl
theorem gG : (Tryz.prog.underlying 152).isSome = true := by kernel_rfl
theorem nD : (Tryz.prog.underlying 154).isSome = true := by kernel_rfl
theorem xP : xH Tryz.prog 152 = some [.int .u32 0] := by kernel_rfl
theorem gH : mP [.int .u32 0] [.val (.int .u32 0)] := by simp [mP, Value.oneCell']
theorem t_at (l : List Nat) (i : Nat) : kF Tryz.prog 213 [(.sl 152 1 (List.map jB l)), (.val (.int .i64 (((i : Nat) : Int))))] (.val (.int .u32 ((((l.getD i 0) : Nat) : Int)))) := by
 refine jL Tryz.func213 rfl cb213 rfl ?_
 show uK _ _ _ _ ⟨[(0, (vl 152 1 jB l)), (1, (kE i))], []⟩
 refine jA <| kx [] [] (zM <| zZ) ?_
 refine jA <| jA <| kx [(8, (vb (decide (((i : Nat) : Int) < ((l.length : Nat) : Int)))))] [] (zM <| zM <| zE (nC kV) <| zE qS <| zZ) ?_
 refine jQ rfl (fun h1 => ?_) (fun h1 => ?_)
 ·replace h1 := of_decide_eq_true h1
  refine jA <| kx [(4, (aG (l.getD i 0)))] [] (zM <| zM <| zE (eP kV i (0 : Nat)) <| zE (yN uR) <| zM <| zZ) ?_
  refine jG ⟨_, (.tmp (d := (.val (.int .u32 ((((l.getD i 0) : Nat) : Int))))) rfl .nil), ?_⟩
  rfl
 ·replace h1 := of_decide_eq_false h1
  refine jD <| jA <| kx [(4, (aG 0))] [] (zM <| zZ) ?_
  refine jG ⟨_, (.tmp (d := (.val (.int .u32 (0)))) rfl .nil), ?_⟩
  rw [show l.getD i 0 = 0 from getD_out (by omega)]; rfl
theorem t_trim (l0 : List Nat) (hd : Dig l0) (hb : l0.length ≤ 17592186044416) : kF Tryz.prog 206 [(.sl 152 1 (List.map jB l0))] (.sl 152 1 (List.map jB (ofNat (val l0)))) := by
 refine jL Tryz.func206 rfl cb206 rfl ?_
 show uK _ _ _ _ ⟨[(0, (vl 152 1 jB l0))], []⟩
 refine jA <| kx [] [] (zE (oNl 152 1) <| zZ) ?_
 refine jA <| jE <| uA (α := List Nat) (fun l => ⟨[(0, (vl 152 1 jB l))], []⟩) (fun l => Dig l ∧ val l = val l0 ∧ l.length ≤ l0.length) (fun l => l.length) l0 wk ⟨hd, rfl, Nat.le_refl _⟩ ?_
 rintro l ⟨hl, hv, hle⟩
 refine jA <| jA <| kx [(14, (vb (decide (0 < ((l.length : Nat) : Int)) && ((((l.getD (l.length - 1) 0) : Nat) : Int) == 0))))] [] ?_ ?_
 ·refine zM <| zE (nC kV) <| zE bO <| zE (oV (vb (decide (0 < ((l.length : Nat) : Int)))) (xD (by kernel_rfl))) <| ?_
  rcases hb1 : (decide (0 < ((l.length : Nat) : Int))) with _ | _
  ·replace hb1 := of_decide_eq_false hb1
   exact zK <| zK <| zK <| zK <| zK <| zK <| zK <| zE fC <| zZ
  ·replace hb1 := of_decide_eq_true hb1
   exact zM <| zM <| zE (nC kV) <| zE (oSb (l.length - 1)) <| zE (eP kV (l.length - 1) (0 : Nat)) <| zE (yN uR) <| zE aO <| zE oPa <| zZ
 refine jQ rfl (fun h2 => ?_) (fun h2 => ?_)
 ·obtain ⟨hp, _⟩ := trim_cond h2
  refine jD <| jE <| kx [(0, (vl 152 1 jB (List.take (l.length - 1) l)))] [] (zM <| zM <| zE (nC kV) <| zE (oSb (l.length - 1)) <| zE (e_slc (l := 0) (h := (l.length - 1)) (kl := .i64) (kh := .i64) (es' := List.map jB (List.take (l.length - 1) l)) (by exact rfl) kV (by exact rfl) (by exact rfl) (by exact rfl) (Nat.zero_le _) (by simp only [List.length_map]; omega) (by rw [List.drop_zero, List.map_take])) <| zM <| zZ) ?_
  exact ⟨(l.take (l.length - 1)), wk, (trim_step hl hv hle h2), (trim_less h2)⟩
 ·refine kQ <| jA <| kx [(2, (vl 152 1 jB l))] [] (zM <| zM <| zZ) ?_
  refine jG ⟨_, (.tmp (d := (.sl 152 1 (List.map jB l))) rfl .nil), ?_⟩
  rw [trim_end hl hv h2]; rfl
theorem t_plus (a b : List Nat) (hda : Dig a) (hdb : Dig b) (hla : a.length ≤ 8796093022208) (hlb : b.length ≤ 8796093022208) : kF Tryz.prog 193 [(.sl 152 1 (List.map jB a)), (.sl 152 1 (List.map jB b))] (.sl 152 1 (List.map jB (ofNat (val a + val b)))) := by
 refine jL Tryz.func193 rfl cb193 rfl ?_
 show uK _ _ _ _ ⟨[(0, (vl 152 1 jB a)), (1, (vl 152 1 jB b))], []⟩
 refine jA <| kx [] [] (zE (oNl 152 1) <| zZ) ?_
 refine jA <| kx [(5, (.own 0 152 1 ((max a.length b.length) + 1)))] [(0, some (bm jB (List.replicate ((max a.length b.length) + 1) 0)))] (zM <| zE (nC kV) <| zM <| zE (nC kV) <| zE (oMx (max a.length b.length)) <| zE (qQ ((max a.length b.length) + 1)) <| zN (oMk 0 jB (0 : Nat) ((max a.length b.length) + 1) ((max a.length b.length) + 1) kV xP gH nT) <| zM <| zZ) ?_
 refine jA <| kx [(6, (aG 0))] [] (zM <| zZ) ?_
 refine jA <| jA <| kx [(17, (kE ((max a.length b.length) + 1))), (18, (kE 0))] [] (zM <| zE (oLo kV) <| zM <| zZ) ?_
 refine jE <| uA (α := Nat × List Nat × Nat) (fun (i, out, c) => ⟨[(0, (vl 152 1 jB a)), (1, (vl 152 1 jB b)), (5, (.own 0 152 1 ((max a.length b.length) + 1))), (6, (aG c)), (17, (kE ((max a.length b.length) + 1))), (18, (kE i))], [(0, some (bm jB out))]⟩) (fun (i, out, c) => out.length = max a.length b.length + 1 ∧ Dig out ∧ i ≤ max a.length b.length + 1 ∧ c ≤ 1 ∧ val (out.take i) + pw i * c = val (a.take i) + val (b.take i)) (fun (i, out, c) => max a.length b.length + 1 - i) (0, List.replicate (max a.length b.length + 1) 0, 0) wk ⟨by simp, yJ _, Nat.zero_le _, Nat.zero_le _, by simp [val]⟩ ?_
 rintro ⟨i, out, c⟩ ⟨vD, hdo, hi, hc, hv⟩
 have hai := hda.getD i
 have hbi := hdb.getD i
 refine jA <| kx [(19, (vb (decide (((i : Nat) : Int) < ((((max a.length b.length) + 1) : Nat) : Int)))))] [] (zE qS <| zZ) ?_
 refine jA <| jQ rfl (fun h1 => ?_) (fun h1 => ?_)
 ·replace h1 := of_decide_eq_true h1
  refine jD <| jA <| jE <| jA <| kx [(7, (kE i))] [] (zM <| zM <| zZ) ?_
  refine jA <| kx [(8, (aG (((a.getD i 0) + (b.getD i 0)) + c)))] [] (zM <| zM <| zE (kC (t_at a i)) <| zM <| zM <| zE (kC (t_at b i)) <| zE (qQ ((a.getD i 0) + (b.getD i 0))) <| zM <| zE (qQ (((a.getD i 0) + (b.getD i 0)) + c)) <| zM <| zZ) ?_
  refine jA <| kx [(6, (aG 0))] [] (zM <| zZ) ?_
  refine jA <| jA <| kx [(31, (vb (decide (1000000000 ≤ (((((a.getD i 0) + (b.getD i 0)) + c) : Nat) : Int)))))] [] (zM <| zE oGe <| zZ) ?_
  refine jQ rfl (fun h2 => ?_) (fun h2 => ?_)
  ·replace h2 := of_decide_eq_true h2
   refine kx [(6, (aG 1)), (8, (aG ((((a.getD i 0) + (b.getD i 0)) + c) - 1000000000)))] [] (zM <| zE (oSb ((((a.getD i 0) + (b.getD i 0)) + c) - 1000000000)) <| zM <| zM <| zZ) ?_
   refine kx [] [(0, some (bm jB (out.set i ((((a.getD i 0) + (b.getD i 0)) + c) - 1000000000))))] (zM <| zM <| zM <| zE (oXo kV i) <| zT (oSp uR i ((((a.getD i 0) + (b.getD i 0)) + c) - 1000000000)) <| zZ) ?_
   refine kx [(18, (kE (i + 1)))] [] (zE (qQ (i + 1)) <| zM <| zZ) ?_
   exact ⟨(i + 1, out.set i (a.getD i 0 + b.getD i 0 + c - 1000000000), 1), wk, (by obtain ⟨q1, q2, q3⟩ := plus_step (s := a.getD i 0 + b.getD i 0 + c - 1000000000) (c' := 1) vD hdo (by omega) hv (by omega) (by omega); exact ⟨q1, q2, by omega, by omega, q3⟩), (by first | omega | (dsimp only; omega))⟩
  ·replace h2 := of_decide_eq_false h2
   refine jD <| kx [] [(0, some (bm jB (out.set i (((a.getD i 0) + (b.getD i 0)) + c))))] (zM <| zM <| zM <| zE (oXo kV i) <| zT (oSp uR i (((a.getD i 0) + (b.getD i 0)) + c)) <| zZ) ?_
   refine kx [(18, (kE (i + 1)))] [] (zE (qQ (i + 1)) <| zM <| zZ) ?_
   exact ⟨(i + 1, out.set i (a.getD i 0 + b.getD i 0 + c), 0), wk, (by obtain ⟨q1, q2, q3⟩ := plus_step (s := a.getD i 0 + b.getD i 0 + c) (c' := 0) vD hdo (by omega) hv (by omega) (by omega); exact ⟨q1, q2, by omega, by omega, q3⟩), (by first | omega | (dsimp only; omega))⟩
 ·replace h1 := of_decide_eq_false h1
  have hie : i = max a.length b.length + 1 := by omega
  rw [hie] at hv
  refine kQ <| jA <| kX (xY (t := 5) (k := 0) (es := List.map jB out) rfl rfl (xV _ _ (fun _ => rfl)) (xU _ _ vD) (yF _ _ (fun _ => rfl) vD)) ?_
  refine kx [(4, (vl 152 1 jB (ofNat (val out))))] [] (zM <| zE (kC (t_trim out (by assumption) (by omega))) <| zM <| zZ) ?_
  refine jG ⟨_, (.tmp (d := (.sl 152 1 (List.map jB (ofNat (val out))))) rfl .nil), ?_⟩
  rw [plus_end hda hdb vD hv]; rfl
theorem t_minus (a b : List Nat) (hda : Dig a) (hdb : Dig b) (hba : val b ≤ val a) (hla : a.length ≤ 8796093022208) : kF Tryz.prog 194 [(.sl 152 1 (List.map jB a)), (.sl 152 1 (List.map jB b))] (.sl 152 1 (List.map jB (ofNat (val a - val b)))) := by
 refine jL Tryz.func194 rfl cb194 rfl ?_
 show uK _ _ _ _ ⟨[(0, (vl 152 1 jB a)), (1, (vl 152 1 jB b))], []⟩
 refine jA <| kx [] [] (zE (oNl 152 1) <| zZ) ?_
 refine jA <| kx [(5, (.own 0 152 1 a.length))] [(0, some (bm jB (List.replicate a.length 0)))] (zM <| zE (nC kV) <| zN (oMk 0 jB (0 : Nat) a.length a.length kV xP gH nT) <| zM <| zZ) ?_
 refine jA <| kx [(6, (aG 0))] [] (zM <| zZ) ?_
 refine jA <| jA <| kx [(13, (kE a.length)), (14, (kE 0))] [] (zM <| zE (oLo kV) <| zM <| zZ) ?_
 refine jE <| uA (α := Nat × List Nat × Nat) (fun (i, out, c) => ⟨[(0, (vl 152 1 jB a)), (1, (vl 152 1 jB b)), (5, (.own 0 152 1 a.length)), (6, (aG c)), (13, (kE a.length)), (14, (kE i))], [(0, some (bm jB out))]⟩) (fun (i, out, c) => out.length = a.length ∧ Dig out ∧ i ≤ a.length ∧ c ≤ 1 ∧ val (out.take i) + val (b.take i) = val (a.take i) + pw i * c) (fun (i, out, c) => a.length - i) (0, List.replicate a.length 0, 0) wk ⟨by simp, yJ _, Nat.zero_le _, Nat.zero_le _, by simp [val]⟩ ?_
 rintro ⟨i, out, c⟩ ⟨vD, hdo, hi, hc, hv⟩
 have hai := hda.getD i
 have hbi := hdb.getD i
 refine jA <| kx [(15, (vb (decide (((i : Nat) : Int) < ((a.length : Nat) : Int)))))] [] (zE qS <| zZ) ?_
 refine jA <| jQ rfl (fun h1 => ?_) (fun h1 => ?_)
 ·replace h1 := of_decide_eq_true h1
  refine jD <| jA <| jE <| jA <| kx [(7, (kE i))] [] (zM <| zM <| zZ) ?_
  refine jA <| kx [(8, (aG ((b.getD i 0) + c)))] [] (zM <| zM <| zE (kC (t_at b i)) <| zM <| zE (qQ ((b.getD i 0) + c)) <| zM <| zZ) ?_
  refine jA <| kx [(6, (aG 0))] [] (zM <| zZ) ?_
  refine jA <| kx [(27, (vb (decide ((((a.getD i 0) : Nat) : Int) < ((((b.getD i 0) + c) : Nat) : Int)))))] [] (zM <| zM <| zE (eP kV i (0 : Nat)) <| zE (yN uR) <| zM <| zE qS <| zZ) ?_
  refine jQ rfl (fun h2 => ?_) (fun h2 => ?_)
  ·replace h2 := of_decide_eq_true h2
   refine kx [(6, (aG 1))] [(0, some (bm jB (out.set i (((a.getD i 0) + 1000000000) - ((b.getD i 0) + c)))))] (zM <| zM <| zM <| zM <| zE (eP kV i (0 : Nat)) <| zE (yN uR) <| zE (qQ ((a.getD i 0) + 1000000000)) <| zM <| zE (oSb (((a.getD i 0) + 1000000000) - ((b.getD i 0) + c))) <| zE (oXo kV i) <| zT (oSp uR i (((a.getD i 0) + 1000000000) - ((b.getD i 0) + c))) <| zM <| zZ) ?_
   refine kx [(14, (kE (i + 1)))] [] (zE (qQ (i + 1)) <| zM <| zZ) ?_
   exact ⟨(i + 1, out.set i (a.getD i 0 + 1000000000 - (b.getD i 0 + c)), 1), wk, (by obtain ⟨q1, q2, q3⟩ := minus_step (s := a.getD i 0 + 1000000000 - (b.getD i 0 + c)) (c' := 1) vD hdo (by omega) hv (by omega) (by omega); exact ⟨q1, q2, by omega, by omega, q3⟩), (by first | omega | (dsimp only; omega))⟩
  ·replace h2 := of_decide_eq_false h2
   refine kx [] [(0, some (bm jB (out.set i ((a.getD i 0) - ((b.getD i 0) + c)))))] (zM <| zM <| zM <| zM <| zE (eP kV i (0 : Nat)) <| zE (yN uR) <| zM <| zE (oSb ((a.getD i 0) - ((b.getD i 0) + c))) <| zE (oXo kV i) <| zT (oSp uR i ((a.getD i 0) - ((b.getD i 0) + c))) <| zZ) ?_
   refine kx [(14, (kE (i + 1)))] [] (zE (qQ (i + 1)) <| zM <| zZ) ?_
   exact ⟨(i + 1, out.set i (a.getD i 0 - (b.getD i 0 + c)), 0), wk, (by obtain ⟨q1, q2, q3⟩ := minus_step (s := a.getD i 0 - (b.getD i 0 + c)) (c' := 0) vD hdo (by omega) hv (by omega) (by omega); exact ⟨q1, q2, by omega, by omega, q3⟩), (by first | omega | (dsimp only; omega))⟩
 ·replace h1 := of_decide_eq_false h1
  have hie : i = a.length := by omega
  rw [hie] at hv
  refine kQ <| jA <| kX (xY (t := 5) (k := 0) (es := List.map jB out) rfl rfl (xV _ _ (fun _ => rfl)) (xU _ _ vD) (yF _ _ (fun _ => rfl) vD)) ?_
  refine kx [(4, (vl 152 1 jB (ofNat (val out))))] [] (zM <| zE (kC (t_trim out (by assumption) (by omega))) <| zM <| zZ) ?_
  refine jG ⟨_, (.tmp (d := (.sl 152 1 (List.map jB (ofNat (val out))))) rfl .nil), ?_⟩
  rw [minus_end hda hdb hdo hba vD hv]; rfl
theorem t_times (a b : List Nat) (hda : Dig a) (hdb : Dig b) (hla : a.length ≤ 4398046511104) (hlb : b.length ≤ 4398046511104) : kF Tryz.prog 179 [(.sl 152 1 (List.map jB a)), (.sl 152 1 (List.map jB b))] (.sl 152 1 (List.map jB (ofNat (val a * val b)))) := by
 refine jL Tryz.func179 rfl cb179 rfl ?_
 show uK _ _ _ _ ⟨[(0, (vl 152 1 jB a)), (1, (vl 152 1 jB b))], []⟩
 refine jA <| kx [] [] (zE (oNl 152 1) <| zZ) ?_
 refine jA <| kx [(5, (.own 0 152 1 (a.length + b.length)))] [(0, some (bm jB (List.replicate (a.length + b.length) 0)))] (zM <| zE (nC kV) <| zM <| zE (nC kV) <| zE (qQ (a.length + b.length)) <| zN (oMk 0 jB (0 : Nat) (a.length + b.length) (a.length + b.length) kV xP gH nT) <| zM <| zZ) ?_
 refine jA <| jA <| kx [(18, (vl 152 1 jB a)), (19, (kE a.length)), (20, (kE 0))] [] (zM <| zE (nC kV) <| zM <| zZ) ?_
 refine jE <| uA (α := Nat × List Nat) (fun (i, out) => ⟨[(1, (vl 152 1 jB b)), (5, (.own 0 152 1 (a.length + b.length))), (18, (vl 152 1 jB a)), (19, (kE a.length)), (20, (kE i))], [(0, some (bm jB out))]⟩) (fun (i, out) => out.length = a.length + b.length ∧ Dig out ∧ i ≤ a.length ∧ (∀ k, i + b.length ≤ k → out.getD k 0 = 0) ∧ val out = val (a.take i) * val b) (fun (i, out) => a.length - i) (0, List.replicate (a.length + b.length) 0) wk ⟨by simp, yJ _, Nat.zero_le _, fun k _ => aC _ k, by simp [val, dY]⟩ ?_
 rintro ⟨i, out⟩ ⟨vD, hdo, hi, hz, hv⟩
 have hai := hda.getD i
 refine jA <| kx [(21, (vb (decide (((i : Nat) : Int) < ((a.length : Nat) : Int)))))] [] (zE qS <| zZ) ?_
 refine jA <| jQ rfl (fun h1 => ?_) (fun h1 => ?_)
 ·replace h1 := of_decide_eq_true h1
  refine jD <| jA <| jE <| jA <| kx [(6, (kE i)), (7, (aG (a.getD i 0)))] [] (zM <| zE (eP kV i (0 : Nat)) <| zE (yN uR) <| zM <| zM <| zZ) ?_
  refine jA <| kx [(8, (gQ 0))] [] (zM <| zZ) ?_
  refine jA <| jA <| kx [(25, (vl 152 1 jB b)), (26, (kE b.length)), (27, (kE 0))] [] (zM <| zE (nC kV) <| zM <| zZ) ?_
  refine jE <| uA (α := Nat × List Nat × Nat) (fun (j, o2, c) => ⟨[(1, (vl 152 1 jB b)), (5, (.own 0 152 1 (a.length + b.length))), (6, (kE i)), (7, (aG (a.getD i 0))), (8, (gQ c)), (18, (vl 152 1 jB a)), (19, (kE a.length)), (20, (kE i)), (25, (vl 152 1 jB b)), (26, (kE b.length)), (27, (kE j))], [(0, some (bm jB o2))]⟩) (fun (j, o2, c) => o2.length = a.length + b.length ∧ Dig o2 ∧ j ≤ b.length ∧ c < 1000000000 ∧ (∀ k, i + b.length ≤ k → o2.getD k 0 = 0) ∧ val o2 + pw (i + j) * c = val (a.take i) * val b + pw i * (a.getD i 0 * val (b.take j))) (fun (j, o2, c) => b.length - j) (0, out, 0) wk ⟨vD, hdo, Nat.zero_le _, by decide, hz, by simp [val, hv]⟩ ?_
  rintro ⟨j, o2, c⟩ ⟨hlen2, hdo2, hj, hc, hz2, hv2⟩
  have hbj := hdb.getD j
  have hoj := hdo2.getD (i + j)
  have hpq : a.getD i 0 * b.getD j 0 ≤ 999999999 * 999999999 := Nat.mul_le_mul (by omega) (by omega)
  refine jA <| kx [(28, (vb (decide (((j : Nat) : Int) < ((b.length : Nat) : Int)))))] [] (zE qS <| zZ) ?_
  refine jA <| jQ rfl (fun h2 => ?_) (fun h2 => ?_)
  ·replace h2 := of_decide_eq_true h2
   refine jD <| jA <| jE <| jA <| kx [(9, (kE j)), (10, (aG (b.getD j 0)))] [] (zM <| zE (eP kV j (0 : Nat)) <| zE (yN uR) <| zM <| zM <| zZ) ?_
   refine jA <| kx [(11, (gQ (((o2.getD (i + j) 0) + ((a.getD i 0) * (b.getD j 0))) + c)))] [] (zM <| zM <| zM <| zE (qQ (i + j)) <| zE (oXo kV (i + j)) <| zR (oLp uR (i + j) (0 : Nat)) <| zE (mU gG gA (o2.getD (i + j) 0)) <| zM <| zE (mU gG gA (a.getD i 0)) <| zM <| zE (mU gG gA (b.getD j 0)) <| zE (oMl ((a.getD i 0) * (b.getD j 0))) <| zE (qQ ((o2.getD (i + j) 0) + ((a.getD i 0) * (b.getD j 0)))) <| zM <| zE (qQ (((o2.getD (i + j) 0) + ((a.getD i 0) * (b.getD j 0))) + c)) <| zM <| zZ) ?_
   refine kx [(8, (gQ ((((o2.getD (i + j) 0) + ((a.getD i 0) * (b.getD j 0))) + c) / 1000000000)))] [(0, some (bm jB (o2.set (i + j) ((((o2.getD (i + j) 0) + ((a.getD i 0) * (b.getD j 0))) + c) % 1000000000))))] (zM <| zM <| zM <| zE (qQ (i + j)) <| zM <| zE (aI ((((o2.getD (i + j) 0) + ((a.getD i 0) * (b.getD j 0))) + c) % 1000000000)) <| zE (mU nD hH ((((o2.getD (i + j) 0) + ((a.getD i 0) * (b.getD j 0))) + c) % 1000000000)) <| zM <| zE (oQu ((((o2.getD (i + j) 0) + ((a.getD i 0) * (b.getD j 0))) + c) / 1000000000)) <| zE (oXo kV (i + j)) <| zT (oSp uR (i + j) ((((o2.getD (i + j) 0) + ((a.getD i 0) * (b.getD j 0))) + c) % 1000000000)) <| zM <| zZ) ?_
   refine kx [(27, (kE (j + 1)))] [] (zE (qQ (j + 1)) <| zM <| zZ) ?_
   exact ⟨(j + 1, o2.set (i + j) ((o2.getD (i + j) 0 + a.getD i 0 * b.getD j 0 + c) % 1000000000), (o2.getD (i + j) 0 + a.getD i 0 * b.getD j 0 + c) / 1000000000), wk, (by obtain ⟨q1, q2⟩ := times_step (by omega) hdo2 hv2 rfl (val_take_succ b j); exact ⟨by simpa using hlen2, q1, by omega, by omega, zero_set (by omega) hz2, q2⟩), (by first | omega | (dsimp only; omega))⟩
  ·replace h2 := of_decide_eq_false h2
   have hje : j = b.length := by omega
   rw [hje] at hv2
   refine kQ <| kx [] [(0, some (bm jB (o2.set (i + b.length) c)))] (zM <| zM <| zM <| zE (nC kV) <| zE (qQ (i + b.length)) <| zM <| zE (mU nD hH c) <| zE (oXo kV (i + b.length)) <| zT (oSp uR (i + b.length) c) <| zZ) ?_
   refine kx [(20, (kE (i + 1)))] [] (zE (qQ (i + 1)) <| zM <| zZ) ?_
   exact ⟨(i + 1, o2.set (i + b.length) c), wk, (by obtain ⟨q1, q2, q3, q4⟩ := times_row hdo2 (by omega) hlen2 hz2 hc hv2; exact ⟨q1, q2, by omega, q3, q4⟩), (by first | omega | (dsimp only; omega))⟩
 ·replace h1 := of_decide_eq_false h1
  have hie : i = a.length := by omega
  rw [hie, List.take_length] at hv
  refine kQ <| jA <| kX (xY (t := 5) (k := 0) (es := List.map jB out) rfl rfl (xV _ _ (fun _ => rfl)) (xU _ _ vD) (yF _ _ (fun _ => rfl) vD)) ?_
  refine kx [(4, (vl 152 1 jB (ofNat (val out))))] [] (zM <| zE (kC (t_trim out (by assumption) (by omega))) <| zM <| zZ) ?_
  refine jG ⟨_, (.tmp (d := (.sl 152 1 (List.map jB (ofNat (val out))))) rfl .nil), ?_⟩
  rw [hv]; rfl
end Go.Proofs.YtbecgnplakngdaaGreat
namespace Go.Proofs.YtbecgnplakngdaaGreat
open Go.RowKit Go.Shelf
attribute [local go_sem] Oper.semAt_some
set_option maxRecDepth 100000 in
set_option maxHeartbeats 2000000 in
theorem back1 (N l Bs b off len cap : Nat) (u : Nat → Value) (vD : (len : Int) ≤ 9223372036854775807) (J : Nat → World → Prop) (Jx : World → Prop)
    (hc : ∀ j W, J j W → W.cell? ⟨Bs, 0, none⟩ = some (.slice (some ⟨b, off, none⟩) len cap) ∧ ∀ i, i < len → W.cell? ⟨b, off + i, none⟩ = some (u i))
    (hY : ∀ j W, J j W → j < len → YieldAt Fence.wide N Tryz.prog l #[.int .i64 ((len : Int) - 1 - (j : Int)), u (len - 1 - j)] W fun e W' =>
      (e = .returned (.bool true) ∧ J (j + 1) W') ∨ (e = .returned (.bool false) ∧ Jx W'))
    (W : World) (h0 : J 0 W) :
    CallsIn Fence.wide (N + 1) Tryz.prog 203 #[.func (.yield l) #[] #[], .pointer (some ⟨Bs, 0, none⟩)] W fun e W' => (∃ v, e = .returned v) ∧ (J len W' ∨ Jx W') := by
  refine callsIn_of_wp Tryz.func203 rfl trivial ?_ rfl
  simp only [Tryz.ntmps203, List.size_toArray, List.length_cons, List.length_nil, Nat.reduceAdd, Nat.reduceSub, Array.replicate_succ, Array.replicate_zero, List.push_toArray, List.append_toArray, List.nil_append, List.cons_append]
  have hBs := (hc 0 W h0).1
  gi_wp2
  gi_loopw [3] (fun i wr => ∃ j : Nat, j ≤ len ∧ i = .int .i64 ((len : Int) - 1 - (j : Int)) ∧ J j wr)
    (fun i _ => (intOf i + 1).toNat)
  case atStart => exact ⟨0, Nat.zero_le _, by simp, h0⟩
  case round =>
    obtain ⟨j, hk, rfl, hJs⟩ := hrel
    have hBj := (hc j wr hJs).1
    by_cases hlt : j < len
    · have hcj := (hc j wr hJs).2 (len - 1 - j) (by omega)
      obtain ⟨fn, tmps, assign, body, hy, hR⟩ := hY j wr hJs hlt
      gi_wp2
      refine hR.mono ?_
      rintro e W3 (⟨rfl, hJ3⟩ | ⟨rfl, hJx3⟩)
      · gi_wp2
        go_roundw
        case rel => exact ⟨j + 1, by omega, by simp; omega, hJ3⟩
        case measure => simp [intOf]; omega
      · gi_wp2
        refine bodyPost_ret (results_none rfl _ _ _) rfl ?_
        exact ⟨⟨_, rfl⟩, .inr hJx3⟩
    · obtain rfl : j = len := by omega
      gi_wp2
      go_end0
      exact ⟨⟨_, rfl⟩, .inl hJs⟩
set_option maxRecDepth 100000 in
set_option maxHeartbeats 2000000 in
theorem back1_nil (N l Bs cap : Nat) (ao : Option Addr) (J : World → Prop) (W : World) (hBs : W.cell? ⟨Bs, 0, none⟩ = some (.slice ao 0 cap)) (h0 : J W) :
    CallsIn Fence.wide (N + 1) Tryz.prog 203 #[.func (.yield l) #[] #[], .pointer (some ⟨Bs, 0, none⟩)] W fun e W' => (∃ v, e = .returned v) ∧ J W' := by
  refine callsIn_of_wp Tryz.func203 rfl trivial ?_ rfl
  simp only [Tryz.ntmps203, List.size_toArray, List.length_cons, List.length_nil, Nat.reduceAdd, Nat.reduceSub, Array.replicate_succ, Array.replicate_zero, List.push_toArray, List.append_toArray, List.nil_append, List.cons_append]
  gi_wp2
  gi_loopw [3] (fun i wr => i = .int .i64 (-1) ∧ J wr) (fun _ _ => 0)
  case atStart => exact ⟨by simp, h0⟩
  case round =>
    obtain ⟨rfl, hJs⟩ := hrel
    gi_wp2
    go_end0
    exact ⟨⟨_, rfl⟩, hJs⟩
set_option maxHeartbeats 1000000 in
theorem back_in (a : Option Addr) (len cap : Nat) (w : World) :
    Calls Tryz.prog 166 #[.slice a len cap] w fun e w' => e = .returned (.func (.func 203) #[] #[.pointer (some ⟨w.heap.size, 0, none⟩)]) ∧ w' = w.alloc (.cells #[.slice a len cap] 38) := by
  refine (callsIn_wide (n := 1)).1 (callsIn_of_wp Tryz.func166 rfl trivial ?_ rfl)
  simp only [Tryz.ntmps166, List.size_toArray, List.length_cons, List.length_nil, Nat.reduceAdd, Nat.reduceSub, Array.replicate_succ, Array.replicate_zero, List.push_toArray, List.append_toArray, List.nil_append, List.cons_append]
  gi_wp2
  go_ret
  exact ⟨rfl, rfl⟩
theorem backs : Go.Fid.Backs Tryz.prog 166 203 38 := ⟨back_in, back1_nil, fun N l c b off len cap u vD J Jx hc hY W h0 => back1 N l c b off len cap u vD J Jx hc hY W h0, enters_of Tryz.func203 (by kernel_rfl) rfl⟩
end Go.Proofs.YtbecgnplakngdaaGreat
namespace Go.Proofs.YtbecgnplakngdaaGreat
open Go.Fid
set_option maxRecDepth 4000
set_option linter.unusedVariables false
set_option linter.unusedSimpArgs false
theorem cb166 : callB Tryz.prog 166 = true := by kernel_rfl
theorem cb178 : callB Tryz.prog 178 = true := by kernel_rfl
theorem cb180 : callB Tryz.prog 180 = true := by kernel_rfl
theorem cb183 : callB Tryz.prog 183 = true := by kernel_rfl
theorem cb184 : callB Tryz.prog 184 = true := by kernel_rfl
theorem cb185 : callB Tryz.prog 185 = true := by kernel_rfl
theorem cb208 : callB Tryz.prog 208 = true := by kernel_rfl
theorem cb209 : callB Tryz.prog 209 = true := by kernel_rfl
theorem cb218 : callB Tryz.prog 218 = true := by kernel_rfl
theorem pl40 : mV Tryz.prog 40 = some [(0, 1), (1, 1)] := by kernel_rfl
theorem vW : uF Tryz.prog 3 = some (false, 1) := by kernel_rfl
theorem xI : uF Tryz.prog 38 = some (false, 1) := by kernel_rfl
theorem jI : uF Tryz.prog 40 = some (true, 2) := by kernel_rfl
theorem sh154 : uF Tryz.prog 154 = some (false, 1) := by kernel_rfl
theorem ze3 : xH Tryz.prog 3 = some [.int .i64 0] := by kernel_rfl
theorem uD : xH Tryz.prog 40 = some [.bool false, .slice none 0 0] := by kernel_rfl
theorem ze154 : xH Tryz.prog 154 = some [.int .u64 0] := by kernel_rfl
theorem zo3 : mP [.int .i64 0] [.val (.int .i64 0)] := by simp [mP, Value.oneCell']
theorem uE : mP [.bool false, .slice none 0 0] [.val (.bool false), .sl 152 1 []] := by simp [mP, Value.oneCell']
theorem zo154 : mP [.int .u64 0] [.val (.int .u64 0)] := by simp [mP, Value.oneCell']
theorem t_isnan_int (a : Int) : kF Tryz.prog 208 [(.val (.int .i64 (a)))] (.val (.bool (false))) := by
 refine jL Tryz.func208 rfl cb208 rfl ?_
 show uK _ _ _ _ ⟨[(0, (vi a))], []⟩
 refine jA <| kx [] [] (zM <| zZ) ?_
 refine jA <| kx [(2, (vb (a != a)))] [] (zM <| zM <| zE mR <| zM <| zZ) ?_
 refine jG ⟨_, (.tmp (d := (.val (.bool ((a != a))))) rfl .nil), ?_⟩
 simp [retD]
theorem t_cmp_int (a b : Int) : kF Tryz.prog 183 [(.val (.int .i64 (a))), (.val (.int .i64 (b)))] (.val (.int .i64 ((xC a b)))) := by
 refine jL Tryz.func183 rfl cb183 rfl ?_
 show uK _ _ _ _ ⟨[(0, (vi a)), (1, (vi b))], []⟩
 refine jA <| kx [] [] (zM <| zZ) ?_
 refine jA <| kx [(5, (vb false))] [] (zM <| zE (kC (t_isnan_int a)) <| zM <| zZ) ?_
 refine jA <| kx [(6, (vb false))] [] (zM <| zE (kC (t_isnan_int b)) <| zM <| zZ) ?_
 refine jA <| jA <| kx [(11, (vb false))] [] (zM <| zZ) ?_
 refine kO ?_
 refine jD <| jA <| jA <| kx [(13, (vb false))] [] (zM <| zZ) ?_
 refine kO ?_
 refine jD <| jA <| jA <| kx [(16, (vb (decide (a < b))))] [] (zM <| zM <| zE qS <| zZ) ?_
 refine jQ (b := decide (a < b)) rfl (fun h1 => ?_) (fun h1 => ?_)
 ·replace h1 := of_decide_eq_true h1
  refine jA <| kx [(4, (vi (-1)))] [] (zM <| zZ) ?_
  refine jG ⟨_, (.tmp (d := (.val (.int .i64 (-1)))) rfl .nil), ?_⟩
  rw [show xC a b = -1 from if_pos h1]; rfl
 ·replace h1 := of_decide_eq_false h1
  refine jD <| jA <| jA <| kx [(19, (vb (decide (b < a))))] [] (zM <| zM <| zE bO <| zZ) ?_
  refine jQ (b := decide (b < a)) rfl (fun h2 => ?_) (fun h2 => ?_)
  ·replace h2 := of_decide_eq_true h2
   refine jA <| kx [(4, (kE 1))] [] (zM <| zZ) ?_
   refine jG ⟨_, (.tmp (d := (.val (.int .i64 (1)))) rfl .nil), ?_⟩
   rw [aM h2]; rfl
  ·replace h2 := of_decide_eq_false h2
   refine jD <| jA <| kx [(4, (kE 0))] [] (zM <| zZ) ?_
   refine jG ⟨_, (.tmp (d := (.val (.int .i64 (0)))) rfl .nil), ?_⟩
   rw [cmpI_eq h1 h2]; rfl
theorem t_isnan_uint32 (a : Nat) : kF Tryz.prog 218 [(.val (.int .u32 (((a : Nat) : Int))))] (.val (.bool (false))) := by
 refine jL Tryz.func218 rfl cb218 rfl ?_
 show uK _ _ _ _ ⟨[(0, (aG a))], []⟩
 refine jA <| kx [] [] (zM <| zZ) ?_
 refine jA <| kx [(2, (vb (((a : Nat) : Int) != ((a : Nat) : Int))))] [] (zM <| zM <| zE mR <| zM <| zZ) ?_
 refine jG ⟨_, (.tmp (d := (.val (.bool ((((a : Nat) : Int) != ((a : Nat) : Int)))))) rfl .nil), ?_⟩
 simp [retD]
theorem t_cmp_uint32 (a b : Nat) : kF Tryz.prog 209 [(.val (.int .u32 (((a : Nat) : Int)))), (.val (.int .u32 (((b : Nat) : Int))))] (.val (.int .i64 ((xC ((a : Nat) : Int) ((b : Nat) : Int))))) := by
 refine jL Tryz.func209 rfl cb209 rfl ?_
 show uK _ _ _ _ ⟨[(0, (aG a)), (1, (aG b))], []⟩
 refine jA <| kx [] [] (zM <| zZ) ?_
 refine jA <| kx [(5, (vb false))] [] (zM <| zE (kC (t_isnan_uint32 a)) <| zM <| zZ) ?_
 refine jA <| kx [(6, (vb false))] [] (zM <| zE (kC (t_isnan_uint32 b)) <| zM <| zZ) ?_
 refine jA <| jA <| kx [(11, (vb false))] [] (zM <| zZ) ?_
 refine kO ?_
 refine jD <| jA <| jA <| kx [(13, (vb false))] [] (zM <| zZ) ?_
 refine kO ?_
 refine jD <| jA <| jA <| kx [(16, (vb (decide (((a : Nat) : Int) < ((b : Nat) : Int)))))] [] (zM <| zM <| zE qS <| zZ) ?_
 refine jQ rfl (fun h1 => ?_) (fun h1 => ?_)
 ·replace h1 := of_decide_eq_true h1
  refine jA <| kx [(4, (vi (-1)))] [] (zM <| zZ) ?_
  refine jG ⟨_, (.tmp (d := (.val (.int .i64 (-1)))) rfl .nil), ?_⟩
  rw [show xC ((a : Nat) : Int) ((b : Nat) : Int) = -1 from if_pos h1]; rfl
 ·replace h1 := of_decide_eq_false h1
  refine jD <| jA <| jA <| kx [(19, (vb (decide (((b : Nat) : Int) < ((a : Nat) : Int)))))] [] (zM <| zM <| zE bO <| zZ) ?_
  refine jQ rfl (fun h2 => ?_) (fun h2 => ?_)
  ·replace h2 := of_decide_eq_true h2
   refine jA <| kx [(4, (kE 1))] [] (zM <| zZ) ?_
   refine jG ⟨_, (.tmp (d := (.val (.int .i64 (1)))) rfl .nil), ?_⟩
   rw [aM h2]; rfl
  ·replace h2 := of_decide_eq_false h2
   refine jD <| jA <| kx [(4, (kE 0))] [] (zM <| zZ) ?_
   refine jG ⟨_, (.tmp (d := (.val (.int .i64 (0)))) rfl .nil), ?_⟩
   rw [cmpI_eq h1 h2]; rfl
theorem dM (neg : Bool) (l : List Nat) (hd : Dig l) (hb : l.length ≤ 17592186044416) : kF Tryz.prog 178 [(.val (.bool (neg))), (.sl 152 1 (List.map jB l))] (jH (zI neg (val l))) := by
 refine jL Tryz.func178 rfl cb178 rfl ?_
 show uK _ _ _ _ ⟨[(0, (vb neg)), (1, (vl 152 1 jB l))], []⟩
 refine jA <| kx [(4, (.ref 0 0))] [(0, some (bx (jH (jF.mk false []))))] (zN (qH 0 uD uE) <| zZ) ?_
 refine jA <| kx [(1, (vl 152 1 jB (ofNat (val l))))] [] (zM <| zE (kC (t_trim l (by assumption) (by omega))) <| zM <| zZ) ?_
 refine jA <| jA <| kx [(9, (vb ((((ofNat (val l)).length : Nat) : Int) == 0)))] [] (zM <| zE (nC kV (L := (ofNat (val l)))) <| zE aO <| zZ) ?_
 refine jQ rfl (fun h1 => ?_) (fun h1 => ?_)
 ·replace h1 := eq_of_beq h1
  refine jA <| kx [] [(0, some (bx (jH (jF.mk false []))))] (zE (oBd pl40 uD uE) <| zT (kR jI) <| zZ) ?_
  refine jG ⟨_, (qB (cs := (bx (jH (jF.mk false [])))) (d := (jH (jF.mk false []))) rfl rfl jI rfl rfl .nil), ?_⟩
  rw [mkI_zero h1]; rfl
 ·replace h1 := ne_of_beq_false h1
  refine jD <| jA <| kx [] [(0, some (bx (jH (jF.mk neg (ofNat (val l))))))] (zM <| zM <| zE (oBd pl40 uD uE) <| zT (kR jI) <| zZ) ?_
  refine jG ⟨_, (qB (cs := (bx (jH (jF.mk neg (ofNat (val l)))))) (d := (jH (jF.mk neg (ofNat (val l))))) rfl rfl jI rfl rfl .nil), ?_⟩
  rw [mkI_pos h1]; rfl
theorem t_word (l : List Nat) (hd : Dig l) : kF Tryz.prog 185 [(.sl 152 1 (List.map jB l))] (.tup [(.val (.int .u64 ((((gB l) : Nat) : Int)))), (.val (.bool ((mM l))))]) := by
 refine jL Tryz.func185 rfl cb185 rfl ?_
 show uK _ _ _ _ ⟨[(0, (vl 152 1 jB l))], []⟩
 refine jA <| kx [(2, (gQ 0)), (3, (vb false))] [] (zM <| zM <| zZ) ?_
 refine jA <| jA <| kx [(9, (vb (decide (2 < ((l.length : Nat) : Int)))))] [] (zM <| zE (nC kV) <| zE bO <| zZ) ?_
 refine jQ (b := decide (2 < ((l.length : Nat) : Int))) rfl (fun h1 => ?_) (fun h1 => ?_)
 ·replace h1 := of_decide_eq_true h1
  refine jA <| kx [(2, (gQ 0)), (3, (vb false))] [] (zM <| zM <| zZ) ?_
  refine jG ⟨_, (.tmp (d := (.val (.int .u64 (0)))) rfl (.tmp (d := (.val (.bool (false)))) rfl .nil)), ?_⟩
  rw [show gB l = 0 from if_neg (by omega), show mM l = false from decide_eq_false (by omega)]; rfl
 ·replace h1 := of_decide_eq_false h1
  have h2 : l.length ≤ 2 := by omega
  refine jD <| jA <| kx [(4, (.ref 0 0))] [(0, some (bx (.val (.int .u64 (0)))))] (zN (qH 0 ze154 zo154) <| zT (kR sh154) <| zZ) ?_
  refine jA <| pwp_backL backs cb166 rfl 5 jB l 0 (fun n => ⟨[(2, (gQ 0)), (3, (vb false)), (4, (.ref 0 0))], [(0, some (bx (.val (.int .u64 (((n : Nat) : Int))))))]⟩) (fun (j : Nat) n => n = val (l.drop (l.length - j))) 0 rfl rfl rfl rfl rfl rfl rfl rfl rfl rfl rfl rfl (fun _ => rfl) (fun _ => rfl) wk (by simp [val]) (by omega) ?_ ?_
  ·rintro rl j n hj hn
   have hw := word_bound hd hj h2
   rw [← hn] at hw
   have hg := hd.getD (l.length - 1 - j)
   refine kx [(6, (aG (l.getD (l.length - 1 - j) 0)))] [] (zM <| zZ) ?_
   refine jE <| kx [] [(0, some (bx (.val (.int .u64 (((((n * 1000000000) + (l.getD (l.length - 1 - j) 0)) : Nat) : Int))))))] (zR (uM sh154) <| zE (oMl (n * 1000000000)) <| zM <| zE (mU gG gA (l.getD (l.length - 1 - j) 0)) <| zE (qQ ((n * 1000000000) + (l.getD (l.length - 1 - j) 0))) <| zT (kR sh154) <| zZ) ?_
   exact ⟨n * 1000000000 + l.getD (l.length - 1 - j) 0, wk, (by dsimp only; rw [bU l j hj, ← hn]; omega)⟩
  ·rintro n hn
   refine jA <| kx [(2, (gQ n)), (3, (vb true))] [] (zR (uM sh154) <| zM <| zM <| zZ) ?_
   refine jG ⟨_, (.tmp (d := (.val (.int .u64 (((n : Nat) : Int))))) rfl (.tmp (d := (.val (.bool (true)))) rfl .nil)), ?_⟩
   rw [show gB l = n by rw [hn, Nat.sub_self, List.drop_zero]; exact if_pos h2, show mM l = true from decide_eq_true h2]; rfl
theorem t_compare (a b : List Nat) (ha : gS a) (hb : gS b) (hla : a.length ≤ 17592186044416) : kF Tryz.prog 184 [(.sl 152 1 (List.map jB a)), (.sl 152 1 (List.map jB b))] (.val (.int .i64 ((xC ((val a : Nat) : Int) ((val b : Nat) : Int))))) := by
 refine jL Tryz.func184 rfl cb184 rfl ?_
 show uK _ _ _ _ ⟨[(0, (vl 152 1 jB a)), (1, (vl 152 1 jB b))], []⟩
 refine jA <| kx [(3, (.ref 0 0)), (4, (.ref 1 0))] [(0, some (bx (.sl 152 1 (List.map jB b)))), (1, some (bx (.val (.int .i64 (0)))))] (zN (uX 0) <| zN (qH 1 ze3 zo3) <| zZ) ?_
 refine jA <| jA <| kx [(11, (vb (((a.length : Nat) : Int) != ((b.length : Nat) : Int))))] [] (zM <| zE (nC kV) <| zR (uM xI) <| zE (nC kV) <| zE mR <| zZ) ?_
 refine jQ rfl (fun h1 => ?_) (fun h1 => ?_)
 ·replace h1 := bne_iff_ne.1 h1
  refine jA <| kx [] [(1, some (bx (.val (.int .i64 ((xC ((a.length : Nat) : Int) ((b.length : Nat) : Int)))))))] (zM <| zE (nC kV) <| zR (uM xI) <| zE (nC kV) <| zE (kC (t_cmp_int ((a.length : Nat) : Int) ((b.length : Nat) : Int))) <| zT (kR vW) <| zZ) ?_
  refine jG ⟨_, (res_1 (cs := (bx (.val (.int .i64 ((xC ((a.length : Nat) : Int) ((b.length : Nat) : Int))))))) (d := (.val (.int .i64 ((xC ((a.length : Nat) : Int) ((b.length : Nat) : Int)))))) rfl rfl vW rfl rfl .nil), ?_⟩
  rw [← cmpI_len ha hb h1]; rfl
 ·replace h1 := bne_eq_false_iff_eq.1 h1
  have hl : a.length = b.length := by omega
  refine jD <| jA <| pwp_backL backs cb166 rfl 5 jB a 0 (fun _ => ⟨[(3, (.ref 0 0)), (4, (.ref 1 0))], [(0, some (bx (.sl 152 1 (List.map jB b)))), (1, some (bx (.val (.int .i64 (0)))))]⟩) (fun (j : Nat) _ => val (a.drop (a.length - j)) = val (b.drop (a.length - j))) () rfl rfl rfl rfl rfl rfl rfl rfl rfl rfl rfl rfl (fun _ => rfl) (fun _ => rfl) wk (by rw [Nat.sub_zero, List.drop_length, hl, List.drop_length]) (by omega) ?_ ?_
  ·rintro rl j ⟨⟩ hj he
   refine jA <| kx [(5, (kE (a.length - 1 - j)))] [] (zM <| zZ) ?_
   refine kx [(6, (aG (a.getD (a.length - 1 - j) 0)))] [] (zM <| zZ) ?_
   refine jE <| jA <| kx [(26, (vb ((((a.getD (a.length - 1 - j) 0) : Nat) : Int) != (((b.getD (a.length - 1 - j) 0) : Nat) : Int))))] [] (zM <| zR (uM xI) <| zM <| zE (eP kV (a.length - 1 - j) (0 : Nat)) <| zE (yN uR) <| zE mR <| zZ) ?_
   refine jQ rfl (fun h2 => ?_) (fun h2 => ?_)
   ·replace h2 := bne_iff_ne.1 h2
    refine jA <| kx [] [(1, some (bx (.val (.int .i64 ((xC (((a.getD (a.length - 1 - j) 0) : Nat) : Int) (((b.getD (a.length - 1 - j) 0) : Nat) : Int)))))))] (zM <| zR (uM xI) <| zM <| zE (eP kV (a.length - 1 - j) (0 : Nat)) <| zE (yN uR) <| zE (kC (t_cmp_uint32 (a.getD (a.length - 1 - j) 0) (b.getD (a.length - 1 - j) 0))) <| zT (kR vW) <| zZ) ?_
    refine jG ⟨⟨[(4, (.ref 1 0))], [(1, some (bx (.val (.int .i64 ((xC (((a.getD (a.length - 1 - j) 0) : Nat) : Int) (((b.getD (a.length - 1 - j) 0) : Nat) : Int)))))))]⟩, wk, keys_of rfl, ⟨_, (res_1 (cs := (bx (.val (.int .i64 ((xC (((a.getD (a.length - 1 - j) 0) : Nat) : Int) (((b.getD (a.length - 1 - j) 0) : Nat) : Int))))))) (d := (.val (.int .i64 ((xC (((a.getD (a.length - 1 - j) 0) : Nat) : Int) (((b.getD (a.length - 1 - j) 0) : Nat) : Int)))))) rfl rfl vW rfl rfl .nil), ?_⟩⟩
    rw [← cmpI_top ha.1 hb.1 hl hj he h2]; rfl
   ·replace h2 := bne_eq_false_iff_eq.1 h2
    refine jD ?_
    exact ⟨(), wk, (by dsimp only; have e1 := bU a j hj; have e2 := bU b j (by omega); rw [← hl] at e2; rw [e1, e2, he]; omega)⟩
  ·rintro ⟨⟩ he
   refine jA <| kx [] [(1, some (bx (.val (.int .i64 (0)))))] (zT (kR vW) <| zZ) ?_
   refine jG ⟨_, (res_1 (cs := (bx (.val (.int .i64 (0))))) (d := (.val (.int .i64 (0)))) rfl rfl vW rfl rfl .nil), ?_⟩
   rw [cmpI_same (by rw [Nat.sub_self, List.drop_zero, List.drop_zero] at he; exact he)]; rfl
theorem t_split (n : Nat) (hn : n < 18446744073709551616) : kF Tryz.prog 180 [(.val (.int .u64 (((n : Nat) : Int))))] (.sl 152 1 (List.map jB (ofNat n))) := by
 refine jL Tryz.func180 rfl cb180 rfl ?_
 show uK _ _ _ _ ⟨[(0, (gQ n))], []⟩
 refine jA <| kx [] [] (zE (oNl 152 1) <| zZ) ?_
 refine jA <| kx [(3, (.own 0 152 1 0))] [(0, some (bm jB []))] (zO 0 152 1 <| zZ) ?_
 refine jA <| jE <| uA (α := Nat × List Nat) (fun (m, g) => ⟨[(0, (gQ m)), (3, (.own 0 152 1 g.length))], [(0, some (bm jB g))]⟩) (fun (m, g) => m ≤ n ∧ g ++ ofNat m = ofNat n) (fun (m, g) => m) (n, []) wk ⟨Nat.le_refl _, by rw [List.nil_append]⟩ ?_
 rintro ⟨m, g⟩ ⟨hm, hg⟩
 have hl := split_len hg hn
 refine jA <| jA <| kx [(5, (vb (decide (0 < ((m : Nat) : Int)))))] [] (zM <| zE bO <| zZ) ?_
 refine jQ (b := decide (0 < ((m : Nat) : Int))) rfl (fun h1 => ?_) (fun h1 => ?_)
 ·replace h1 := of_decide_eq_true h1
  refine jD <| jA <| jE <| kf [(3, (.own 0 152 1 ((g ++ [(m % 1000000000)]).length)))] [(0, some (bm jB (g ++ [(m % 1000000000)])))] (zM <| zM <| zE (aI (m % 1000000000)) <| zE (mU nD hH (m % 1000000000)) <| zE (cP kV xP gH) <| zA jB g [(m % 1000000000)] rfl kV xP nT <| zM <| zF) ?_
  refine kx [(0, (gQ (m / 1000000000)))] [] (zM <| zE (oQu (m / 1000000000)) <| zM <| zZ) ?_
  exact ⟨(m / 1000000000, g ++ [m % 1000000000]), wk, ⟨by omega, split_step hg h1⟩, (by first | omega | (dsimp only; omega))⟩
 ·replace h1 := of_decide_eq_false h1
  refine kQ <| jA <| kX (xY (t := 3) (k := 0) (es := List.map jB g) rfl rfl (xV _ _ (fun _ => rfl)) (xU _ _ rfl) (yF _ _ (fun _ => rfl) rfl)) ?_
  refine kx [(2, (vl 152 1 jB g))] [] (zM <| zM <| zZ) ?_
  refine jG ⟨_, (.tmp (d := (.sl 152 1 (List.map jB g))) rfl .nil), ?_⟩
  rw [split_end hg h1]; rfl
end Go.Proofs.YtbecgnplakngdaaGreat
namespace Go.Proofs.YtbecgnplakngdaaGreat
open Go.Fid
set_option maxRecDepth 4000
set_option linter.unusedVariables false
set_option linter.unusedSimpArgs false
theorem cb143 : callB Tryz.prog 143 = true := by kernel_rfl
theorem cb165 : callB Tryz.prog 165 = true := by kernel_rfl
theorem cb181 : callB Tryz.prog 181 = true := by kernel_rfl
theorem cb182 : callB Tryz.prog 182 = true := by kernel_rfl
theorem cb187 : callB Tryz.prog 187 = true := by kernel_rfl
theorem cb207 : callB Tryz.prog 207 = true := by kernel_rfl
theorem uS : xJ Tryz.prog 40 0 = some 0 := by kernel_rfl
theorem uT : xJ Tryz.prog 40 1 = some 1 := by kernel_rfl
theorem eI : uF Tryz.prog 4 = some (false, 1) := by kernel_rfl
theorem t_big (a : Nat) : kF Tryz.prog 182 [(.val (.int .u32 (((a : Nat) : Int))))] (.val (.bool ((decide (1000000000 ≤ ((a : Nat) : Int)))))) := by
 refine jL Tryz.func182 rfl cb182 rfl ?_
 show uK _ _ _ _ ⟨[(0, (aG a))], []⟩
 refine jA <| kx [] [] (zM <| zZ) ?_
 refine jA <| kx [(2, (vb (decide (1000000000 ≤ ((a : Nat) : Int)))))] [] (zM <| zE oGe <| zM <| zZ) ?_
 refine jG ⟨_, (.tmp (d := (.val (.bool (decide (1000000000 ≤ ((a : Nat) : Int)))))) rfl .nil), ?_⟩
 rfl
theorem t_index (l : List Nat) (hb : l.length ≤ 17592186044416) : kF Tryz.prog 207 [(.sl 152 1 (List.map jB l)), (.val (.func (.func 182) #[] #[]))] (.val (.int .i64 ((zL l)))) := by
 refine jL Tryz.func207 rfl cb207 rfl ?_
 show uK _ _ _ _ ⟨[(0, (vl 152 1 jB l)), (1, (.d (.val (.func (.func 182) #[] #[]))))], []⟩
 refine jA <| kx [] [] (zM <| zZ) ?_
 refine jA <| jA <| kx [(7, (kE l.length)), (8, (kE 0))] [] (zM <| zE (nC kV) <| zM <| zZ) ?_
 refine jE <| uA (α := Nat) (fun i => ⟨[(0, (vl 152 1 jB l)), (1, (.d (.val (.func (.func 182) #[] #[])))), (7, (kE l.length)), (8, (kE i))], []⟩) (fun i => i ≤ l.length ∧ Dig (l.take i)) (fun i => l.length - i) 0 wk ⟨Nat.zero_le _, hO⟩ ?_
 rintro i ⟨hi, hd⟩
 refine jA <| kx [(9, (vb (decide (((i : Nat) : Int) < ((l.length : Nat) : Int)))))] [] (zE qS <| zZ) ?_
 refine jA <| jQ rfl (fun h1 => ?_) (fun h1 => ?_)
 ·replace h1 := of_decide_eq_true h1
  refine jD <| jA <| jE <| jA <| kx [(5, (kE i))] [] (zM <| zM <| zZ) ?_
  refine jA <| kx [(16, (vb (decide (1000000000 ≤ (((l.getD i 0) : Nat) : Int)))))] [] (zM <| zM <| zM <| zE (eP kV i (0 : Nat)) <| zE (yN uR) <| zE (kC (t_big (l.getD i 0))) <| zZ) ?_
  refine jQ rfl (fun h2 => ?_) (fun h2 => ?_)
  ·replace h2 := of_decide_eq_true h2
   refine jA <| kx [(4, (kE i))] [] (zM <| zM <| zZ) ?_
   refine jG ⟨_, (.tmp (d := (.val (.int .i64 (((i : Nat) : Int))))) rfl .nil), ?_⟩
   rw [firstBig_at (by omega) hd (by omega)]; rfl
  ·replace h2 := of_decide_eq_false h2
   refine jD <| kx [(8, (kE (i + 1)))] [] (zE (qQ (i + 1)) <| zM <| zZ) ?_
   exact ⟨(i + 1), wk, ⟨by omega, dig_take_succ (by omega) hd (by omega)⟩, (by omega)⟩
 ·replace h1 := of_decide_eq_false h1
  refine kQ <| jA <| kx [(4, (vi (-1)))] [] (zM <| zZ) ?_
  refine jG ⟨_, (.tmp (d := (.val (.int .i64 (-1)))) rfl .nil), ?_⟩
  rw [iX (by rw [List.take_of_length_le (by omega)] at hd; exact hd)]; rfl
theorem t_contains (l : List Nat) (hb : l.length ≤ 17592186044416) : kF Tryz.prog 181 [(.sl 152 1 (List.map jB l)), (.val (.func (.func 182) #[] #[]))] (.val (.bool ((decide (0 ≤ zL l))))) := by
 refine jL Tryz.func181 rfl cb181 rfl ?_
 show uK _ _ _ _ ⟨[(0, (vl 152 1 jB l)), (1, (.d (.val (.func (.func 182) #[] #[]))))], []⟩
 refine jA <| kx [] [] (zM <| zZ) ?_
 refine jA <| kx [(4, (vb (decide (0 ≤ (zL l)))))] [] (zM <| zM <| zE (kC (t_index l (by omega))) <| zE oGe <| zM <| zZ) ?_
 refine jG ⟨_, (.tmp (d := (.val (.bool (decide (0 ≤ (zL l)))))) rfl .nil), ?_⟩
 rfl
theorem t_valid (x : jF) (hb : x.gs.length ≤ 17592186044416) : kF Tryz.prog 143 [(jH x)] (.val (.bool ((uG x)))) := by
 refine jL Tryz.func143 rfl cb143 rfl ?_
 show uK _ _ _ _ ⟨[(0, (.d (jH x)))], []⟩
 refine jA <| kx [(1, (.ref 0 0))] [(0, some (bx (jH x)))] (zN (uX 0) <| zM <| zZ) ?_
 refine jA <| kx [(3, (kE x.gs.length))] [] (zE (kU uT) <| zR (uM xI) <| zE (nC kV) <| zM <| zZ) ?_
 refine jA <| jA <| kx [(8, (vb (((x.gs.length : Nat) : Int) == 0)))] [] (zM <| zE aO <| zZ) ?_
 refine jQ (b := (((x.gs.length : Nat) : Int) == 0)) rfl (fun h1 => ?_) (fun h1 => ?_)
 ·replace h1 := eq_of_beq h1
  refine jA <| kx [(2, (vb (!x.neg)))] [] (zE (kU uS) <| zR (uM eI) <| zE eX <| zM <| zZ) ?_
  refine jG ⟨_, (.tmp (d := (.val (.bool (!x.neg)))) rfl .nil), ?_⟩
  rw [show uG x = !x.neg from if_pos h1]; rfl
 ·replace h1 := ne_of_beq_false h1
  refine jD <| jA <| kx [(2, (vb (((((x.gs.getD (x.gs.length - 1) 0) : Nat) : Int) != 0) && !(decide (0 ≤ zL x.gs)))))] [] ?_ ?_
  ·refine zE (kU uT) <| zR (uM xI) <| zM <| zE (oSb (x.gs.length - 1)) <| zE (eP kV (x.gs.length - 1) (0 : Nat)) <| zE (yN uR) <| zE mR <| zE (oV (vb ((((x.gs.getD (x.gs.length - 1) 0) : Nat) : Int) != 0)) (xD (by kernel_rfl))) <| ?_
   rcases hb2 : ((((x.gs.getD (x.gs.length - 1) 0) : Nat) : Int) != 0) with _ | _
   ·replace hb2 := bne_eq_false_iff_eq.1 hb2
    exact zK <| zK <| zK <| zK <| zE fC <| zM <| zZ
   ·replace hb2 := bne_iff_ne.1 hb2
    exact zE (kU uT) <| zR (uM xI) <| zE (kC (t_contains x.gs (by omega))) <| zE eX <| zE oPa <| zM <| zZ
  refine jG ⟨_, (.tmp (d := (.val (.bool ((((((x.gs.getD (x.gs.length - 1) 0) : Nat) : Int) != 0) && !(decide (0 ≤ zL x.gs))))))) rfl .nil), ?_⟩
  rw [show uG x = _ from if_neg h1]; rfl
theorem gR (x : jF) (hb : x.gs.length ≤ 17592186044416) : kF Tryz.prog 165 [(jH x)] (.sl 152 1 (List.map jB (qD x))) := by
 refine jL Tryz.func165 rfl cb165 rfl ?_
 show uK _ _ _ _ ⟨[(0, (.d (jH x)))], []⟩
 refine jA <| kx [(1, (.ref 0 0))] [(0, some (bx (jH x)))] (zN (uX 0) <| zE (oNl 152 1) <| zZ) ?_
 refine jA <| jA <| kx [(5, (vb (!(uG x))))] [] (zR (kA jI) <| zE (kC (t_valid x (by omega))) <| zE eX <| zZ) ?_
 refine jQ (b := !(uG x)) rfl (fun h1 => ?_) (fun h1 => ?_)
 ·refine jA <| kx [(2, (vl 152 1 jB []))] [] (zE (oNl 152 1) <| zZ) ?_
  refine jG ⟨_, (.tmp (d := (.sl 152 1 (List.map jB []))) rfl .nil), ?_⟩
  rw [show qD x = [] from if_neg (by simpa using h1)]; rfl
 ·refine jD <| jA <| kx [(2, (vl 152 1 jB x.gs))] [] (zE (kU uT) <| zR (uM xI) <| zM <| zZ) ?_
  refine jG ⟨_, (.tmp (d := (.sl 152 1 (List.map jB x.gs))) rfl .nil), ?_⟩
  rw [show qD x = x.gs from if_pos (by simpa using h1)]; rfl
theorem t_clone (l : List Nat) (hb : l.length ≤ 17592186044416) : kF Tryz.prog 187 [(.sl 152 1 (List.map jB l))] (.sl 152 1 (List.map jB l)) := by
 refine jL Tryz.func187 rfl cb187 rfl ?_
 show uK _ _ _ _ ⟨[(0, (vl 152 1 jB l))], []⟩
 refine jA <| kx [] [] (zE (oNl 152 1) <| zZ) ?_
 refine jA <| jA <| pwp_nilq rfl rfl rfl rfl rfl rfl kV rfl rfl rfl (fun nb hnb => ?_)
 refine jQ (b := nb) rfl (fun h1 => ?_) (fun h1 => ?_)
 ·refine jA <| kx [(2, (vl 152 1 jB []))] [] (zE (oNl 152 1) <| zZ) ?_
  refine jG ⟨_, (.tmp (d := (.sl 152 1 (List.map jB []))) rfl .nil), ?_⟩
  rw [List.map_eq_nil_iff.1 (hnb h1)]; rfl
 ·refine jD <| jA <| kf [(2, (.own 0 152 1 (([] ++ l).length)))] [(0, some (bm jB ([] ++ l)))] (zN (oBo 0 kV xP gH) <| zM <| zA jB [] l rfl kV xP nT <| zM <| zF) ?_
  refine kX (xY (t := 2) (k := 0) (es := List.map jB ([] ++ l)) rfl rfl (xV _ _ (fun _ => rfl)) (xU _ _ rfl) (yF _ _ (fun _ => rfl) rfl)) ?_
  refine jG ⟨_, (.tmp (d := (.sl 152 1 (List.map jB ([] ++ l)))) rfl .nil), ?_⟩
  rfl
end Go.Proofs.YtbecgnplakngdaaGreat
