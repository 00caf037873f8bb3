/- Part 15 of a proof: rules, plain facts, and functions walked. -/
import Derived.Test.YtihgdjljnaekmaaGreatM12
import Derived.Test.YtihgdjljnaekmaaGreatM8
import Derived.Test.YtihgdjljnaekmaaGreatM14
import Derived.Test.YtihgdjljnaekmaaGreatChecked
import Derived.RangeFuncBox
import Derived.Shelf.Abstract
import Derived.OwnWalkIn
import Derived.TacticsInMore
import Derived.LoopNIn
import Derived.LoopIn
import Derived.Test.YtihgdjljnaekmaaGreatM10
namespace Go.Proofs.YtihgdjljnaekmaaGreat
open Go.Fid
set_option maxRecDepth 4000
set_option linter.unusedVariables false
set_option linter.unusedSimpArgs false
theorem gB : yD Tryz.prog 135 = some 4 := by kernel_rfl
theorem cb150 : callB Tryz.prog 150 = true := by kernel_rfl
theorem cb179 : callB Tryz.prog 179 = true := by kernel_rfl
theorem cb180 : callB Tryz.prog 180 = true := by kernel_rfl
theorem cb181 : callB Tryz.prog 181 = true := by kernel_rfl
theorem cb198 : callB Tryz.prog 198 = true := by kernel_rfl
theorem kC : uR Tryz.prog 47 = some (135, 1) := by kernel_rfl
theorem zP : intB Tryz.prog 135 = some .u32 := by kernel_rfl
theorem xC : intB Tryz.prog 180 = some .u64 := by kernel_rfl
theorem qD : kV Tryz.prog 135 = some (false, 1) := by kernel_rfl
theorem vZ : (Tryz.prog.underlying 135).isSome = true := by kernel_rfl
theorem zU : (Tryz.prog.underlying 180).isSome = true := by kernel_rfl
theorem uU : vF Tryz.prog 135 = some [.int .u32 0] := by kernel_rfl
theorem xP : mV [.int .u32 0] [.val (.int .u32 0)] := by simp [mV, Value.oneCell']
theorem t_at (l : List Nat) (i : Nat) : jZ Tryz.prog 198 [(.sl 135 1 (List.map jD l)), (.val (.int .i64 (((i : Nat) : Int))))] (.val (.int .u32 ((((l.getD i 0) : Nat) : Int)))) := by
 refine jL Tryz.func198 rfl cb198 rfl ?_
 show qS _ _ _ _ ⟨[(0, (vl 135 1 jD l)), (1, (jQ i))], []⟩
 refine jA <| kx [] [] (zM <| zZ) ?_
 refine jA <| jA <| kx [(8, (vb (decide (((i : Nat) : Int) < ((l.length : Nat) : Int)))))] [] (zM <| zM <| zE (xA kC) <| zE uP <| zZ) ?_
 refine jG rfl (fun h1 => ?_) (fun h1 => ?_)
 ·replace h1 := of_decide_eq_true h1
  refine jA <| kx [(4, (dC (l.getD i 0)))] [] (zM <| zM <| zE (yO kC i (0 : Nat)) <| zE (nB qD) <| zM <| zZ) ?_
  refine jI ⟨_, (.tmp (d := (.val (.int .u32 ((((l.getD i 0) : Nat) : Int))))) rfl .nil), ?_⟩
  rfl
 ·replace h1 := of_decide_eq_false h1
  refine jF <| jA <| kx [(4, (dC 0))] [] (zM <| zZ) ?_
  refine jI ⟨_, (.tmp (d := (.val (.int .u32 (0)))) rfl .nil), ?_⟩
  rw [show l.getD i 0 = 0 from getD_out (by omega)]; rfl
theorem t_trim (l0 : List Nat) (hd : Dig l0) (hb : l0.length ≤ 17592186044416) : jZ Tryz.prog 179 [(.sl 135 1 (List.map jD l0))] (.sl 135 1 (List.map jD (ofNat (val l0)))) := by
 refine jL Tryz.func179 rfl cb179 rfl ?_
 show qS _ _ _ _ ⟨[(0, (vl 135 1 jD l0))], []⟩
 refine jA <| kx [] [] (zE (oNl 135 1) <| zZ) ?_
 refine jA <| jH <| kH (α := List Nat) (fun l => ⟨[(0, (vl 135 1 jD l))], []⟩) (fun l => Dig l ∧ val l = val l0 ∧ l.length ≤ l0.length) (fun l => l.length) l0 wk ⟨hd, rfl, Nat.le_refl _⟩ ?_
 rintro l ⟨hl, hv, hle⟩
 refine jA <| jA <| kx [(14, (vb (decide (0 < ((l.length : Nat) : Int)) && ((((l.getD (l.length - 1) 0) : Nat) : Int) == 0))))] [] ?_ ?_
 ·refine zM <| zE (xA kC) <| zE mZ <| zE (oV (vb (decide (0 < ((l.length : Nat) : Int)))) (kP (by kernel_rfl))) <| ?_
  rcases hb1 : (decide (0 < ((l.length : Nat) : Int))) with _ | _
  ·replace hb1 := of_decide_eq_false hb1
   exact zK <| zK <| zK <| zK <| zK <| zK <| zK <| zE oPf <| zZ
  ·replace hb1 := of_decide_eq_true hb1
   exact zM <| zM <| zE (xA kC) <| zE (oSb (l.length - 1)) <| zE (yO kC (l.length - 1) (0 : Nat)) <| zE (nB qD) <| zE gF <| zE oPa <| zZ
 refine jG rfl (fun h2 => ?_) (fun h2 => ?_)
 ·obtain ⟨hp, _⟩ := trim_cond h2
  refine jF <| jH <| kx [(0, (vl 135 1 jD (List.take (l.length - 1) l)))] [] (zM <| zM <| zE (xA kC) <| zE (oSb (l.length - 1)) <| zE (e_slc (l := 0) (h := (l.length - 1)) (kl := .i64) (kh := .i64) (es' := List.map jD (List.take (l.length - 1) l)) (by exact rfl) kC (by exact rfl) (by exact rfl) (by exact rfl) (Nat.zero_le _) (by simp only [List.length_map]; omega) (by rw [List.drop_zero, List.map_take])) <| zM <| zZ) ?_
  exact ⟨(l.take (l.length - 1)), wk, (trim_step hl hv hle h2), (trim_less h2)⟩
 ·refine jW <| jA <| kx [(2, (vl 135 1 jD l))] [] (zM <| zM <| zZ) ?_
  refine jI ⟨_, (.tmp (d := (.sl 135 1 (List.map jD l))) rfl .nil), ?_⟩
  rw [trim_end hl hv h2]; rfl
theorem t_plus (a b : List Nat) (hda : Dig a) (hdb : Dig b) (hla : a.length ≤ 8796093022208) (hlb : b.length ≤ 8796093022208) : jZ Tryz.prog 180 [(.sl 135 1 (List.map jD a)), (.sl 135 1 (List.map jD b))] (.sl 135 1 (List.map jD (ofNat (val a + val b)))) := by
 refine jL Tryz.func180 rfl cb180 rfl ?_
 show qS _ _ _ _ ⟨[(0, (vl 135 1 jD a)), (1, (vl 135 1 jD b))], []⟩
 refine jA <| kx [] [] (zE (oNl 135 1) <| zZ) ?_
 refine jA <| kx [(5, (.own 0 135 1 ((max a.length b.length) + 1)))] [(0, some (bm jD (List.replicate ((max a.length b.length) + 1) 0)))] (zM <| zE (xA kC) <| zM <| zE (xA kC) <| zE (oMx (max a.length b.length)) <| zE (qQ ((max a.length b.length) + 1)) <| zN (oMk 0 jD (0 : Nat) ((max a.length b.length) + 1) ((max a.length b.length) + 1) kC uU xP gB) <| zM <| zZ) ?_
 refine jA <| kx [(6, (dC 0))] [] (zM <| zZ) ?_
 refine jA <| jA <| kx [(17, (jQ ((max a.length b.length) + 1))), (18, (jQ 0))] [] (zM <| zE (oLo kC) <| zM <| zZ) ?_
 refine jH <| kH (α := Nat × List Nat × Nat) (fun (i, out, c) => ⟨[(0, (vl 135 1 jD a)), (1, (vl 135 1 jD b)), (5, (.own 0 135 1 ((max a.length b.length) + 1))), (6, (dC c)), (17, (jQ ((max a.length b.length) + 1))), (18, (jQ i))], [(0, some (bm jD out))]⟩) (fun (i, out, c) => out.length = max a.length b.length + 1 ∧ Dig out ∧ i ≤ max a.length b.length + 1 ∧ c ≤ 1 ∧ val (out.take i) + pw i * c = val (a.take i) + val (b.take i)) (fun (i, out, c) => max a.length b.length + 1 - i) (0, List.replicate (max a.length b.length + 1) 0, 0) wk ⟨by simp, vX _, Nat.zero_le _, Nat.zero_le _, by simp [val]⟩ ?_
 rintro ⟨i, out, c⟩ ⟨qU, hdo, hi, hc, hv⟩
 have hai := hda.getD i
 have hbi := hdb.getD i
 refine jA <| kx [(19, (vb (decide (((i : Nat) : Int) < ((((max a.length b.length) + 1) : Nat) : Int)))))] [] (zE uP <| zZ) ?_
 refine jA <| jG rfl (fun h1 => ?_) (fun h1 => ?_)
 ·replace h1 := of_decide_eq_true h1
  refine jF <| jA <| jH <| jA <| kx [(7, (jQ i))] [] (zM <| zM <| zZ) ?_
  refine jA <| kx [(8, (dC (((a.getD i 0) + (b.getD i 0)) + c)))] [] (zM <| zM <| zE (kD (t_at a i)) <| zM <| zM <| zE (kD (t_at b i)) <| zE (qQ ((a.getD i 0) + (b.getD i 0))) <| zM <| zE (qQ (((a.getD i 0) + (b.getD i 0)) + c)) <| zM <| zZ) ?_
  refine jA <| kx [(6, (dC 0))] [] (zM <| zZ) ?_
  refine jA <| jA <| kx [(31, (vb (decide (1000000000 ≤ (((((a.getD i 0) + (b.getD i 0)) + c) : Nat) : Int)))))] [] (zM <| zE oGe <| zZ) ?_
  refine jG rfl (fun h2 => ?_) (fun h2 => ?_)
  ·replace h2 := of_decide_eq_true h2
   refine kx [(6, (dC 1)), (8, (dC ((((a.getD i 0) + (b.getD i 0)) + c) - 1000000000)))] [] (zM <| zE (oSb ((((a.getD i 0) + (b.getD i 0)) + c) - 1000000000)) <| zM <| zM <| zZ) ?_
   refine kx [] [(0, some (bm jD (out.set i ((((a.getD i 0) + (b.getD i 0)) + c) - 1000000000))))] (zM <| zM <| zM <| zE (dT kC i) <| zT (oSp qD i ((((a.getD i 0) + (b.getD i 0)) + c) - 1000000000)) <| zZ) ?_
   refine kx [(18, (jQ (i + 1)))] [] (zE (qQ (i + 1)) <| zM <| zZ) ?_
   exact ⟨(i + 1, out.set i (a.getD i 0 + b.getD i 0 + c - 1000000000), 1), wk, (by obtain ⟨q1, q2, q3⟩ := plus_step (s := a.getD i 0 + b.getD i 0 + c - 1000000000) (c' := 1) qU hdo (by omega) hv (by omega) (by omega); exact ⟨q1, q2, by omega, by omega, q3⟩), (by first | omega | (dsimp only; omega))⟩
  ·replace h2 := of_decide_eq_false h2
   refine jF <| kx [] [(0, some (bm jD (out.set i (((a.getD i 0) + (b.getD i 0)) + c))))] (zM <| zM <| zM <| zE (dT kC i) <| zT (oSp qD i (((a.getD i 0) + (b.getD i 0)) + c)) <| zZ) ?_
   refine kx [(18, (jQ (i + 1)))] [] (zE (qQ (i + 1)) <| zM <| zZ) ?_
   exact ⟨(i + 1, out.set i (a.getD i 0 + b.getD i 0 + c), 0), wk, (by obtain ⟨q1, q2, q3⟩ := plus_step (s := a.getD i 0 + b.getD i 0 + c) (c' := 0) qU hdo (by omega) hv (by omega) (by omega); exact ⟨q1, q2, by omega, by omega, q3⟩), (by first | omega | (dsimp only; omega))⟩
 ·replace h1 := of_decide_eq_false h1
  have hie : i = max a.length b.length + 1 := by omega
  rw [hie] at hv
  refine jW <| jA <| kY (vV (t := 5) (k := 0) (es := List.map jD out) rfl rfl (uO _ _ (fun _ => rfl)) (uS _ _ qU) (vE _ _ (fun _ => rfl) qU)) ?_
  refine kx [(4, (vl 135 1 jD (ofNat (val out))))] [] (zM <| zE (kD (t_trim out (by assumption) (by omega))) <| zM <| zZ) ?_
  refine jI ⟨_, (.tmp (d := (.sl 135 1 (List.map jD (ofNat (val out))))) rfl .nil), ?_⟩
  rw [plus_end hda hdb qU hv]; rfl
theorem t_minus (a b : List Nat) (hda : Dig a) (hdb : Dig b) (hba : val b ≤ val a) (hla : a.length ≤ 8796093022208) : jZ Tryz.prog 181 [(.sl 135 1 (List.map jD a)), (.sl 135 1 (List.map jD b))] (.sl 135 1 (List.map jD (ofNat (val a - val b)))) := by
 refine jL Tryz.func181 rfl cb181 rfl ?_
 show qS _ _ _ _ ⟨[(0, (vl 135 1 jD a)), (1, (vl 135 1 jD b))], []⟩
 refine jA <| kx [] [] (zE (oNl 135 1) <| zZ) ?_
 refine jA <| kx [(5, (.own 0 135 1 a.length))] [(0, some (bm jD (List.replicate a.length 0)))] (zM <| zE (xA kC) <| zN (oMk 0 jD (0 : Nat) a.length a.length kC uU xP gB) <| zM <| zZ) ?_
 refine jA <| kx [(6, (dC 0))] [] (zM <| zZ) ?_
 refine jA <| jA <| kx [(13, (jQ a.length)), (14, (jQ 0))] [] (zM <| zE (oLo kC) <| zM <| zZ) ?_
 refine jH <| kH (α := Nat × List Nat × Nat) (fun (i, out, c) => ⟨[(0, (vl 135 1 jD a)), (1, (vl 135 1 jD b)), (5, (.own 0 135 1 a.length)), (6, (dC c)), (13, (jQ a.length)), (14, (jQ i))], [(0, some (bm jD out))]⟩) (fun (i, out, c) => out.length = a.length ∧ Dig out ∧ i ≤ a.length ∧ c ≤ 1 ∧ val (out.take i) + val (b.take i) = val (a.take i) + pw i * c) (fun (i, out, c) => a.length - i) (0, List.replicate a.length 0, 0) wk ⟨by simp, vX _, Nat.zero_le _, Nat.zero_le _, by simp [val]⟩ ?_
 rintro ⟨i, out, c⟩ ⟨qU, hdo, hi, hc, hv⟩
 have hai := hda.getD i
 have hbi := hdb.getD i
 refine jA <| kx [(15, (vb (decide (((i : Nat) : Int) < ((a.length : Nat) : Int)))))] [] (zE uP <| zZ) ?_
 refine jA <| jG rfl (fun h1 => ?_) (fun h1 => ?_)
 ·replace h1 := of_decide_eq_true h1
  refine jF <| jA <| jH <| jA <| kx [(7, (jQ i))] [] (zM <| zM <| zZ) ?_
  refine jA <| kx [(8, (dC ((b.getD i 0) + c)))] [] (zM <| zM <| zE (kD (t_at b i)) <| zM <| zE (qQ ((b.getD i 0) + c)) <| zM <| zZ) ?_
  refine jA <| kx [(6, (dC 0))] [] (zM <| zZ) ?_
  refine jA <| kx [(27, (vb (decide ((((a.getD i 0) : Nat) : Int) < ((((b.getD i 0) + c) : Nat) : Int)))))] [] (zM <| zM <| zE (yO kC i (0 : Nat)) <| zE (nB qD) <| zM <| zE uP <| zZ) ?_
  refine jG rfl (fun h2 => ?_) (fun h2 => ?_)
  ·replace h2 := of_decide_eq_true h2
   refine kx [(6, (dC 1))] [(0, some (bm jD (out.set i (((a.getD i 0) + 1000000000) - ((b.getD i 0) + c)))))] (zM <| zM <| zM <| zM <| zE (yO kC i (0 : Nat)) <| zE (nB qD) <| zE (qQ ((a.getD i 0) + 1000000000)) <| zM <| zE (oSb (((a.getD i 0) + 1000000000) - ((b.getD i 0) + c))) <| zE (dT kC i) <| zT (oSp qD i (((a.getD i 0) + 1000000000) - ((b.getD i 0) + c))) <| zM <| zZ) ?_
   refine kx [(14, (jQ (i + 1)))] [] (zE (qQ (i + 1)) <| zM <| zZ) ?_
   exact ⟨(i + 1, out.set i (a.getD i 0 + 1000000000 - (b.getD i 0 + c)), 1), wk, (by obtain ⟨q1, q2, q3⟩ := minus_step (s := a.getD i 0 + 1000000000 - (b.getD i 0 + c)) (c' := 1) qU hdo (by omega) hv (by omega) (by omega); exact ⟨q1, q2, by omega, by omega, q3⟩), (by first | omega | (dsimp only; omega))⟩
  ·replace h2 := of_decide_eq_false h2
   refine kx [] [(0, some (bm jD (out.set i ((a.getD i 0) - ((b.getD i 0) + c)))))] (zM <| zM <| zM <| zM <| zE (yO kC i (0 : Nat)) <| zE (nB qD) <| zM <| zE (oSb ((a.getD i 0) - ((b.getD i 0) + c))) <| zE (dT kC i) <| zT (oSp qD i ((a.getD i 0) - ((b.getD i 0) + c))) <| zZ) ?_
   refine kx [(14, (jQ (i + 1)))] [] (zE (qQ (i + 1)) <| zM <| zZ) ?_
   exact ⟨(i + 1, out.set i (a.getD i 0 - (b.getD i 0 + c)), 0), wk, (by obtain ⟨q1, q2, q3⟩ := minus_step (s := a.getD i 0 - (b.getD i 0 + c)) (c' := 0) qU hdo (by omega) hv (by omega) (by omega); exact ⟨q1, q2, by omega, by omega, q3⟩), (by first | omega | (dsimp only; omega))⟩
 ·replace h1 := of_decide_eq_false h1
  have hie : i = a.length := by omega
  rw [hie] at hv
  refine jW <| jA <| kY (vV (t := 5) (k := 0) (es := List.map jD out) rfl rfl (uO _ _ (fun _ => rfl)) (uS _ _ qU) (vE _ _ (fun _ => rfl) qU)) ?_
  refine kx [(4, (vl 135 1 jD (ofNat (val out))))] [] (zM <| zE (kD (t_trim out (by assumption) (by omega))) <| zM <| zZ) ?_
  refine jI ⟨_, (.tmp (d := (.sl 135 1 (List.map jD (ofNat (val out))))) rfl .nil), ?_⟩
  rw [minus_end hda hdb hdo hba qU hv]; rfl
theorem t_times (a b : List Nat) (hda : Dig a) (hdb : Dig b) (hla : a.length ≤ 4398046511104) (hlb : b.length ≤ 4398046511104) : jZ Tryz.prog 150 [(.sl 135 1 (List.map jD a)), (.sl 135 1 (List.map jD b))] (.sl 135 1 (List.map jD (ofNat (val a * val b)))) := by
 refine jL Tryz.func150 rfl cb150 rfl ?_
 show qS _ _ _ _ ⟨[(0, (vl 135 1 jD a)), (1, (vl 135 1 jD b))], []⟩
 refine jA <| kx [] [] (zE (oNl 135 1) <| zZ) ?_
 refine jA <| kx [(5, (.own 0 135 1 (a.length + b.length)))] [(0, some (bm jD (List.replicate (a.length + b.length) 0)))] (zM <| zE (xA kC) <| zM <| zE (xA kC) <| zE (qQ (a.length + b.length)) <| zN (oMk 0 jD (0 : Nat) (a.length + b.length) (a.length + b.length) kC uU xP gB) <| zM <| zZ) ?_
 refine jA <| jA <| kx [(18, (vl 135 1 jD a)), (19, (jQ a.length)), (20, (jQ 0))] [] (zM <| zE (xA kC) <| zM <| zZ) ?_
 refine jH <| kH (α := Nat × List Nat) (fun (i, out) => ⟨[(1, (vl 135 1 jD b)), (5, (.own 0 135 1 (a.length + b.length))), (18, (vl 135 1 jD a)), (19, (jQ a.length)), (20, (jQ i))], [(0, some (bm jD out))]⟩) (fun (i, out) => out.length = a.length + b.length ∧ Dig out ∧ i ≤ a.length ∧ (∀ k, i + b.length ≤ k → out.getD k 0 = 0) ∧ val out = val (a.take i) * val b) (fun (i, out) => a.length - i) (0, List.replicate (a.length + b.length) 0) wk ⟨by simp, vX _, Nat.zero_le _, fun k _ => dK _ k, by simp [val, mN]⟩ ?_
 rintro ⟨i, out⟩ ⟨qU, hdo, hi, hz, hv⟩
 have hai := hda.getD i
 refine jA <| kx [(21, (vb (decide (((i : Nat) : Int) < ((a.length : Nat) : Int)))))] [] (zE uP <| zZ) ?_
 refine jA <| jG rfl (fun h1 => ?_) (fun h1 => ?_)
 ·replace h1 := of_decide_eq_true h1
  refine jF <| jA <| jH <| jA <| kx [(6, (jQ i)), (7, (dC (a.getD i 0)))] [] (zM <| zE (yO kC i (0 : Nat)) <| zE (nB qD) <| zM <| zM <| zZ) ?_
  refine jA <| kx [(8, (xX 0))] [] (zM <| zZ) ?_
  refine jA <| jA <| kx [(25, (vl 135 1 jD b)), (26, (jQ b.length)), (27, (jQ 0))] [] (zM <| zE (xA kC) <| zM <| zZ) ?_
  refine jH <| kH (α := Nat × List Nat × Nat) (fun (j, o2, c) => ⟨[(1, (vl 135 1 jD b)), (5, (.own 0 135 1 (a.length + b.length))), (6, (jQ i)), (7, (dC (a.getD i 0))), (8, (xX c)), (18, (vl 135 1 jD a)), (19, (jQ a.length)), (20, (jQ i)), (25, (vl 135 1 jD b)), (26, (jQ b.length)), (27, (jQ j))], [(0, some (bm jD o2))]⟩) (fun (j, o2, c) => o2.length = a.length + b.length ∧ Dig o2 ∧ j ≤ b.length ∧ c < 1000000000 ∧ (∀ k, i + b.length ≤ k → o2.getD k 0 = 0) ∧ val o2 + pw (i + j) * c = val (a.take i) * val b + pw i * (a.getD i 0 * val (b.take j))) (fun (j, o2, c) => b.length - j) (0, out, 0) wk ⟨qU, hdo, Nat.zero_le _, by decide, hz, by simp [val, hv]⟩ ?_
  rintro ⟨j, o2, c⟩ ⟨hlen2, hdo2, hj, hc, hz2, hv2⟩
  have hbj := hdb.getD j
  have hoj := hdo2.getD (i + j)
  have hpq : a.getD i 0 * b.getD j 0 ≤ 999999999 * 999999999 := Nat.mul_le_mul (by omega) (by omega)
  refine jA <| kx [(28, (vb (decide (((j : Nat) : Int) < ((b.length : Nat) : Int)))))] [] (zE uP <| zZ) ?_
  refine jA <| jG rfl (fun h2 => ?_) (fun h2 => ?_)
  ·replace h2 := of_decide_eq_true h2
   refine jF <| jA <| jH <| jA <| kx [(9, (jQ j)), (10, (dC (b.getD j 0)))] [] (zM <| zE (yO kC j (0 : Nat)) <| zE (nB qD) <| zM <| zM <| zZ) ?_
   refine jA <| kx [(11, (xX (((o2.getD (i + j) 0) + ((a.getD i 0) * (b.getD j 0))) + c)))] [] (zM <| zM <| zM <| zE (qQ (i + j)) <| zE (dT kC (i + j)) <| zR (oLp qD (i + j) (0 : Nat)) <| zE (yV vZ xC (o2.getD (i + j) 0)) <| zM <| zE (yV vZ xC (a.getD i 0)) <| zM <| zE (yV vZ xC (b.getD j 0)) <| zE (oMl ((a.getD i 0) * (b.getD j 0))) <| zE (qQ ((o2.getD (i + j) 0) + ((a.getD i 0) * (b.getD j 0)))) <| zM <| zE (qQ (((o2.getD (i + j) 0) + ((a.getD i 0) * (b.getD j 0))) + c)) <| zM <| zZ) ?_
   refine kx [(8, (xX ((((o2.getD (i + j) 0) + ((a.getD i 0) * (b.getD j 0))) + c) / 1000000000)))] [(0, some (bm jD (o2.set (i + j) ((((o2.getD (i + j) 0) + ((a.getD i 0) * (b.getD j 0))) + c) % 1000000000))))] (zM <| zM <| zM <| zE (qQ (i + j)) <| zM <| zE (oRe ((((o2.getD (i + j) 0) + ((a.getD i 0) * (b.getD j 0))) + c) % 1000000000)) <| zE (yV zU zP ((((o2.getD (i + j) 0) + ((a.getD i 0) * (b.getD j 0))) + c) % 1000000000)) <| zM <| zE (oQu ((((o2.getD (i + j) 0) + ((a.getD i 0) * (b.getD j 0))) + c) / 1000000000)) <| zE (dT kC (i + j)) <| zT (oSp qD (i + j) ((((o2.getD (i + j) 0) + ((a.getD i 0) * (b.getD j 0))) + c) % 1000000000)) <| zM <| zZ) ?_
   refine kx [(27, (jQ (j + 1)))] [] (zE (qQ (j + 1)) <| zM <| zZ) ?_
   exact ⟨(j + 1, o2.set (i + j) ((o2.getD (i + j) 0 + a.getD i 0 * b.getD j 0 + c) % 1000000000), (o2.getD (i + j) 0 + a.getD i 0 * b.getD j 0 + c) / 1000000000), wk, (by obtain ⟨q1, q2⟩ := times_step (by omega) hdo2 hv2 rfl (val_take_succ b j); exact ⟨by simpa using hlen2, q1, by omega, by omega, zero_set (by omega) hz2, q2⟩), (by first | omega | (dsimp only; omega))⟩
  ·replace h2 := of_decide_eq_false h2
   have hje : j = b.length := by omega
   rw [hje] at hv2
   refine jW <| kx [] [(0, some (bm jD (o2.set (i + b.length) c)))] (zM <| zM <| zM <| zE (xA kC) <| zE (qQ (i + b.length)) <| zM <| zE (yV zU zP c) <| zE (dT kC (i + b.length)) <| zT (oSp qD (i + b.length) c) <| zZ) ?_
   refine kx [(20, (jQ (i + 1)))] [] (zE (qQ (i + 1)) <| zM <| zZ) ?_
   exact ⟨(i + 1, o2.set (i + b.length) c), wk, (by obtain ⟨q1, q2, q3, q4⟩ := times_row hdo2 (by omega) hlen2 hz2 hc hv2; exact ⟨q1, q2, by omega, q3, q4⟩), (by first | omega | (dsimp only; omega))⟩
 ·replace h1 := of_decide_eq_false h1
  have hie : i = a.length := by omega
  rw [hie, List.take_length] at hv
  refine jW <| jA <| kY (vV (t := 5) (k := 0) (es := List.map jD out) rfl rfl (uO _ _ (fun _ => rfl)) (uS _ _ qU) (vE _ _ (fun _ => rfl) qU)) ?_
  refine kx [(4, (vl 135 1 jD (ofNat (val out))))] [] (zM <| zE (kD (t_trim out (by assumption) (by omega))) <| zM <| zZ) ?_
  refine jI ⟨_, (.tmp (d := (.sl 135 1 (List.map jD (ofNat (val out))))) rfl .nil), ?_⟩
  rw [hv]; rfl
end Go.Proofs.YtihgdjljnaekmaaGreat
namespace Go.Proofs.YtihgdjljnaekmaaGreat
open Go.RowKit Go.Shelf
attribute [local go_sem] Oper.semAt_some
set_option maxRecDepth 100000 in
set_option maxHeartbeats 2000000 in
theorem back1 (N l Bs b off len cap : Nat) (u : Nat → Value) (qU : (len : Int) ≤ 9223372036854775807) (J : Nat → World → Prop) (Jx : World → Prop)
    (hc : ∀ j W, J j W → W.cell? ⟨Bs, 0, none⟩ = some (.slice (some ⟨b, off, none⟩) len cap) ∧ ∀ i, i < len → W.cell? ⟨b, off + i, none⟩ = some (u i))
    (hY : ∀ j W, J j W → j < len → YieldAt Fence.wide N Tryz.prog l #[.int .i64 ((len : Int) - 1 - (j : Int)), u (len - 1 - j)] W fun e W' =>
      (e = .returned (.bool true) ∧ J (j + 1) W') ∨ (e = .returned (.bool false) ∧ Jx W'))
    (W : World) (h0 : J 0 W) :
    CallsIn Fence.wide (N + 1) Tryz.prog 182 #[.func (.yield l) #[] #[], .pointer (some ⟨Bs, 0, none⟩)] W fun e W' => (∃ v, e = .returned v) ∧ (J len W' ∨ Jx W') := by
  refine callsIn_of_wp Tryz.func182 rfl trivial ?_ rfl
  simp only [Tryz.ntmps182, List.size_toArray, List.length_cons, List.length_nil, Nat.reduceAdd, Nat.reduceSub, Array.replicate_succ, Array.replicate_zero, List.push_toArray, List.append_toArray, List.nil_append, List.cons_append]
  have hBs := (hc 0 W h0).1
  gi_wp2
  gi_loopw [3] (fun i wr => ∃ j : Nat, j ≤ len ∧ i = .int .i64 ((len : Int) - 1 - (j : Int)) ∧ J j wr)
    (fun i _ => (intOf i + 1).toNat)
  case atStart => exact ⟨0, Nat.zero_le _, by simp, h0⟩
  case round =>
    obtain ⟨j, hk, rfl, hJs⟩ := hrel
    have hBj := (hc j wr hJs).1
    by_cases hlt : j < len
    · have hcj := (hc j wr hJs).2 (len - 1 - j) (by omega)
      obtain ⟨fn, tmps, assign, body, hy, hR⟩ := hY j wr hJs hlt
      gi_wp2
      refine hR.mono ?_
      rintro e W3 (⟨rfl, hJ3⟩ | ⟨rfl, hJx3⟩)
      · gi_wp2
        go_roundw
        case rel => exact ⟨j + 1, by omega, by simp; omega, hJ3⟩
        case measure => simp [intOf]; omega
      · gi_wp2
        refine bodyPost_ret (results_none rfl _ _ _) rfl ?_
        exact ⟨⟨_, rfl⟩, .inr hJx3⟩
    · obtain rfl : j = len := by omega
      gi_wp2
      go_end0
      exact ⟨⟨_, rfl⟩, .inl hJs⟩
set_option maxRecDepth 100000 in
set_option maxHeartbeats 2000000 in
theorem back1_nil (N l Bs cap : Nat) (ao : Option Addr) (J : World → Prop) (W : World) (hBs : W.cell? ⟨Bs, 0, none⟩ = some (.slice ao 0 cap)) (h0 : J W) :
    CallsIn Fence.wide (N + 1) Tryz.prog 182 #[.func (.yield l) #[] #[], .pointer (some ⟨Bs, 0, none⟩)] W fun e W' => (∃ v, e = .returned v) ∧ J W' := by
  refine callsIn_of_wp Tryz.func182 rfl trivial ?_ rfl
  simp only [Tryz.ntmps182, List.size_toArray, List.length_cons, List.length_nil, Nat.reduceAdd, Nat.reduceSub, Array.replicate_succ, Array.replicate_zero, List.push_toArray, List.append_toArray, List.nil_append, List.cons_append]
  gi_wp2
  gi_loopw [3] (fun i wr => i = .int .i64 (-1) ∧ J wr) (fun _ _ => 0)
  case atStart => exact ⟨by simp, h0⟩
  case round =>
    obtain ⟨rfl, hJs⟩ := hrel
    gi_wp2
    go_end0
    exact ⟨⟨_, rfl⟩, hJs⟩
set_option maxHeartbeats 1000000 in
theorem back_in (a : Option Addr) (len cap : Nat) (w : World) :
    Calls Tryz.prog 158 #[.slice a len cap] w fun e w' => e = .returned (.func (.func 182) #[] #[.pointer (some ⟨w.heap.size, 0, none⟩)]) ∧ w' = w.alloc (.cells #[.slice a len cap] 47) := by
  refine (callsIn_wide (n := 1)).1 (callsIn_of_wp Tryz.func158 rfl trivial ?_ rfl)
  simp only [Tryz.ntmps158, List.size_toArray, List.length_cons, List.length_nil, Nat.reduceAdd, Nat.reduceSub, Array.replicate_succ, Array.replicate_zero, List.push_toArray, List.append_toArray, List.nil_append, List.cons_append]
  gi_wp2
  go_ret
  exact ⟨rfl, rfl⟩
theorem backs : Go.Fid.Backs Tryz.prog 158 182 47 := ⟨back_in, back1_nil, fun N l c b off len cap u qU J Jx hc hY W h0 => back1 N l c b off len cap u qU J Jx hc hY W h0, enters_of Tryz.func182 (by kernel_rfl) rfl⟩
end Go.Proofs.YtihgdjljnaekmaaGreat
namespace Go.Proofs.YtihgdjljnaekmaaGreat
open Go.Fid
set_option maxRecDepth 4000
set_option linter.unusedVariables false
set_option linter.unusedSimpArgs false
theorem cb146 : callB Tryz.prog 146 = true := by kernel_rfl
theorem cb147 : callB Tryz.prog 147 = true := by kernel_rfl
theorem cb158 : callB Tryz.prog 158 = true := by kernel_rfl
theorem cb171 : callB Tryz.prog 171 = true := by kernel_rfl
theorem cb172 : callB Tryz.prog 172 = true := by kernel_rfl
theorem cb173 : callB Tryz.prog 173 = true := by kernel_rfl
theorem cb194 : callB Tryz.prog 194 = true := by kernel_rfl
theorem cb195 : callB Tryz.prog 195 = true := by kernel_rfl
theorem cb200 : callB Tryz.prog 200 = true := by kernel_rfl
theorem pl49 : aC Tryz.prog 49 = some [(0, 1), (1, 1)] := by kernel_rfl
theorem qA : kV Tryz.prog 3 = some (false, 1) := by kernel_rfl
theorem xE : kV Tryz.prog 47 = some (false, 1) := by kernel_rfl
theorem jM : kV Tryz.prog 49 = some (true, 2) := by kernel_rfl
theorem dR : kV Tryz.prog 180 = some (false, 1) := by kernel_rfl
theorem ze3 : vF Tryz.prog 3 = some [.int .i64 0] := by kernel_rfl
theorem uN : vF Tryz.prog 49 = some [.bool false, .slice none 0 0] := by kernel_rfl
theorem ze180 : vF Tryz.prog 180 = some [.int .u64 0] := by kernel_rfl
theorem zo3 : mV [.int .i64 0] [.val (.int .i64 0)] := by simp [mV, Value.oneCell']
theorem uM : mV [.bool false, .slice none 0 0] [.val (.bool false), .sl 135 1 []] := by simp [mV, Value.oneCell']
theorem zo180 : mV [.int .u64 0] [.val (.int .u64 0)] := by simp [mV, Value.oneCell']
theorem t_isnan_int (a : Int) : jZ Tryz.prog 194 [(.val (.int .i64 (a)))] (.val (.bool (false))) := by
 refine jL Tryz.func194 rfl cb194 rfl ?_
 show qS _ _ _ _ ⟨[(0, (vi a))], []⟩
 refine jA <| kx [] [] (zM <| zZ) ?_
 refine jA <| kx [(2, (vb (a != a)))] [] (zM <| zM <| zE cG <| zM <| zZ) ?_
 refine jI ⟨_, (.tmp (d := (.val (.bool ((a != a))))) rfl .nil), ?_⟩
 simp [retD]
theorem t_cmp_int (a b : Int) : jZ Tryz.prog 171 [(.val (.int .i64 (a))), (.val (.int .i64 (b)))] (.val (.int .i64 ((qY a b)))) := by
 refine jL Tryz.func171 rfl cb171 rfl ?_
 show qS _ _ _ _ ⟨[(0, (vi a)), (1, (vi b))], []⟩
 refine jA <| kx [] [] (zM <| zZ) ?_
 refine jA <| kx [(5, (vb false))] [] (zM <| zE (kD (t_isnan_int a)) <| zM <| zZ) ?_
 refine jA <| kx [(6, (vb false))] [] (zM <| zE (kD (t_isnan_int b)) <| zM <| zZ) ?_
 refine jA <| jA <| kx [(11, (vb false))] [] (zM <| zZ) ?_
 refine qN ?_
 refine jF <| jA <| jA <| kx [(13, (vb false))] [] (zM <| zZ) ?_
 refine qN ?_
 refine jF <| jA <| jA <| kx [(16, (vb (decide (a < b))))] [] (zM <| zM <| zE uP <| zZ) ?_
 refine jG (b := decide (a < b)) rfl (fun h1 => ?_) (fun h1 => ?_)
 ·replace h1 := of_decide_eq_true h1
  refine jA <| kx [(4, (vi (-1)))] [] (zM <| zZ) ?_
  refine jI ⟨_, (.tmp (d := (.val (.int .i64 (-1)))) rfl .nil), ?_⟩
  rw [show qY a b = -1 from if_pos h1]; rfl
 ·replace h1 := of_decide_eq_false h1
  refine jF <| jA <| jA <| kx [(19, (vb (decide (b < a))))] [] (zM <| zM <| zE mZ <| zZ) ?_
  refine jG (b := decide (b < a)) rfl (fun h2 => ?_) (fun h2 => ?_)
  ·replace h2 := of_decide_eq_true h2
   refine jA <| kx [(4, (jQ 1))] [] (zM <| zZ) ?_
   refine jI ⟨_, (.tmp (d := (.val (.int .i64 (1)))) rfl .nil), ?_⟩
   rw [cO h2]; rfl
  ·replace h2 := of_decide_eq_false h2
   refine jF <| jA <| kx [(4, (jQ 0))] [] (zM <| zZ) ?_
   refine jI ⟨_, (.tmp (d := (.val (.int .i64 (0)))) rfl .nil), ?_⟩
   rw [cmpI_eq h1 h2]; rfl
theorem t_isnan_uint32 (a : Nat) : jZ Tryz.prog 200 [(.val (.int .u32 (((a : Nat) : Int))))] (.val (.bool (false))) := by
 refine jL Tryz.func200 rfl cb200 rfl ?_
 show qS _ _ _ _ ⟨[(0, (dC a))], []⟩
 refine jA <| kx [] [] (zM <| zZ) ?_
 refine jA <| kx [(2, (vb (((a : Nat) : Int) != ((a : Nat) : Int))))] [] (zM <| zM <| zE cG <| zM <| zZ) ?_
 refine jI ⟨_, (.tmp (d := (.val (.bool ((((a : Nat) : Int) != ((a : Nat) : Int)))))) rfl .nil), ?_⟩
 simp [retD]
theorem t_cmp_uint32 (a b : Nat) : jZ Tryz.prog 195 [(.val (.int .u32 (((a : Nat) : Int)))), (.val (.int .u32 (((b : Nat) : Int))))] (.val (.int .i64 ((qY ((a : Nat) : Int) ((b : Nat) : Int))))) := by
 refine jL Tryz.func195 rfl cb195 rfl ?_
 show qS _ _ _ _ ⟨[(0, (dC a)), (1, (dC b))], []⟩
 refine jA <| kx [] [] (zM <| zZ) ?_
 refine jA <| kx [(5, (vb false))] [] (zM <| zE (kD (t_isnan_uint32 a)) <| zM <| zZ) ?_
 refine jA <| kx [(6, (vb false))] [] (zM <| zE (kD (t_isnan_uint32 b)) <| zM <| zZ) ?_
 refine jA <| jA <| kx [(11, (vb false))] [] (zM <| zZ) ?_
 refine qN ?_
 refine jF <| jA <| jA <| kx [(13, (vb false))] [] (zM <| zZ) ?_
 refine qN ?_
 refine jF <| jA <| jA <| kx [(16, (vb (decide (((a : Nat) : Int) < ((b : Nat) : Int)))))] [] (zM <| zM <| zE uP <| zZ) ?_
 refine jG rfl (fun h1 => ?_) (fun h1 => ?_)
 ·replace h1 := of_decide_eq_true h1
  refine jA <| kx [(4, (vi (-1)))] [] (zM <| zZ) ?_
  refine jI ⟨_, (.tmp (d := (.val (.int .i64 (-1)))) rfl .nil), ?_⟩
  rw [show qY ((a : Nat) : Int) ((b : Nat) : Int) = -1 from if_pos h1]; rfl
 ·replace h1 := of_decide_eq_false h1
  refine jF <| jA <| jA <| kx [(19, (vb (decide (((b : Nat) : Int) < ((a : Nat) : Int)))))] [] (zM <| zM <| zE mZ <| zZ) ?_
  refine jG rfl (fun h2 => ?_) (fun h2 => ?_)
  ·replace h2 := of_decide_eq_true h2
   refine jA <| kx [(4, (jQ 1))] [] (zM <| zZ) ?_
   refine jI ⟨_, (.tmp (d := (.val (.int .i64 (1)))) rfl .nil), ?_⟩
   rw [cO h2]; rfl
  ·replace h2 := of_decide_eq_false h2
   refine jF <| jA <| kx [(4, (jQ 0))] [] (zM <| zZ) ?_
   refine jI ⟨_, (.tmp (d := (.val (.int .i64 (0)))) rfl .nil), ?_⟩
   rw [cmpI_eq h1 h2]; rfl
theorem mC (neg : Bool) (l : List Nat) (hd : Dig l) (hb : l.length ≤ 17592186044416) : jZ Tryz.prog 146 [(.val (.bool (neg))), (.sl 135 1 (List.map jD l))] (jJ (vH neg (val l))) := by
 refine jL Tryz.func146 rfl cb146 rfl ?_
 show qS _ _ _ _ ⟨[(0, (vb neg)), (1, (vl 135 1 jD l))], []⟩
 refine jA <| kx [(4, (.ref 0 0))] [(0, some (bx (jJ (kG.mk false []))))] (zN (uQ 0 uN uM) <| zZ) ?_
 refine jA <| kx [(1, (vl 135 1 jD (ofNat (val l))))] [] (zM <| zE (kD (t_trim l (by assumption) (by omega))) <| zM <| zZ) ?_
 refine jA <| jA <| kx [(9, (vb ((((ofNat (val l)).length : Nat) : Int) == 0)))] [] (zM <| zE (xA kC (L := (ofNat (val l)))) <| zE gF <| zZ) ?_
 refine jG rfl (fun h1 => ?_) (fun h1 => ?_)
 ·replace h1 := eq_of_beq h1
  refine jA <| kx [] [(0, some (bx (jJ (kG.mk false []))))] (zE (eQ pl49 uN uM) <| zT (kZ jM) <| zZ) ?_
  refine jI ⟨_, (kS (cs := (bx (jJ (kG.mk false [])))) (d := (jJ (kG.mk false []))) rfl rfl jM rfl rfl .nil), ?_⟩
  rw [mkI_zero h1]; rfl
 ·replace h1 := ne_of_beq_false h1
  refine jF <| jA <| kx [] [(0, some (bx (jJ (kG.mk neg (ofNat (val l))))))] (zM <| zM <| zE (eQ pl49 uN uM) <| zT (kZ jM) <| zZ) ?_
  refine jI ⟨_, (kS (cs := (bx (jJ (kG.mk neg (ofNat (val l)))))) (d := (jJ (kG.mk neg (ofNat (val l))))) rfl rfl jM rfl rfl .nil), ?_⟩
  rw [mkI_pos h1]; rfl
theorem t_word (l : List Nat) (hd : Dig l) : jZ Tryz.prog 173 [(.sl 135 1 (List.map jD l))] (.tup [(.val (.int .u64 ((((xL l) : Nat) : Int)))), (.val (.bool ((gN l))))]) := by
 refine jL Tryz.func173 rfl cb173 rfl ?_
 show qS _ _ _ _ ⟨[(0, (vl 135 1 jD l))], []⟩
 refine jA <| kx [(2, (xX 0)), (3, (vb false))] [] (zM <| zM <| zZ) ?_
 refine jA <| jA <| kx [(9, (vb (decide (2 < ((l.length : Nat) : Int)))))] [] (zM <| zE (xA kC) <| zE mZ <| zZ) ?_
 refine jG (b := decide (2 < ((l.length : Nat) : Int))) rfl (fun h1 => ?_) (fun h1 => ?_)
 ·replace h1 := of_decide_eq_true h1
  refine jA <| kx [(2, (xX 0)), (3, (vb false))] [] (zM <| zM <| zZ) ?_
  refine jI ⟨_, (.tmp (d := (.val (.int .u64 (0)))) rfl (.tmp (d := (.val (.bool (false)))) rfl .nil)), ?_⟩
  rw [show xL l = 0 from if_neg (by omega), show gN l = false from decide_eq_false (by omega)]; rfl
 ·replace h1 := of_decide_eq_false h1
  have h2 : l.length ≤ 2 := by omega
  refine jF <| jA <| kx [(4, (.ref 0 0))] [(0, some (bx (.val (.int .u64 (0)))))] (zN (uQ 0 ze180 zo180) <| zT (kZ dR) <| zZ) ?_
  refine jA <| pwp_backL backs cb158 rfl 5 jD l 0 (fun n => ⟨[(2, (xX 0)), (3, (vb false)), (4, (.ref 0 0))], [(0, some (bx (.val (.int .u64 (((n : Nat) : Int))))))]⟩) (fun (j : Nat) n => n = val (l.drop (l.length - j))) 0 rfl rfl rfl rfl rfl rfl rfl rfl rfl rfl rfl rfl (fun _ => rfl) (fun _ => rfl) wk (by simp [val]) (by omega) ?_ ?_
  ·rintro rl j n hj hn
   have hw := word_bound hd hj h2
   rw [← hn] at hw
   have hg := hd.getD (l.length - 1 - j)
   refine kx [(6, (dC (l.getD (l.length - 1 - j) 0)))] [] (zM <| zZ) ?_
   refine jH <| kx [] [(0, some (bx (.val (.int .u64 (((((n * 1000000000) + (l.getD (l.length - 1 - j) 0)) : Nat) : Int))))))] (zR (kM dR) <| zE (oMl (n * 1000000000)) <| zM <| zE (yV vZ xC (l.getD (l.length - 1 - j) 0)) <| zE (qQ ((n * 1000000000) + (l.getD (l.length - 1 - j) 0))) <| zT (kZ dR) <| zZ) ?_
   exact ⟨n * 1000000000 + l.getD (l.length - 1 - j) 0, wk, (by dsimp only; rw [cX l j hj, ← hn]; omega)⟩
  ·rintro n hn
   refine jA <| kx [(2, (xX n)), (3, (vb true))] [] (zR (kM dR) <| zM <| zM <| zZ) ?_
   refine jI ⟨_, (.tmp (d := (.val (.int .u64 (((n : Nat) : Int))))) rfl (.tmp (d := (.val (.bool (true)))) rfl .nil)), ?_⟩
   rw [show xL l = n by rw [hn, Nat.sub_self, List.drop_zero]; exact if_pos h2, show gN l = true from decide_eq_true h2]; rfl
theorem t_compare (a b : List Nat) (ha : zC a) (hb : zC b) (hla : a.length ≤ 17592186044416) : jZ Tryz.prog 172 [(.sl 135 1 (List.map jD a)), (.sl 135 1 (List.map jD b))] (.val (.int .i64 ((qY ((val a : Nat) : Int) ((val b : Nat) : Int))))) := by
 refine jL Tryz.func172 rfl cb172 rfl ?_
 show qS _ _ _ _ ⟨[(0, (vl 135 1 jD a)), (1, (vl 135 1 jD b))], []⟩
 refine jA <| kx [(3, (.ref 0 0)), (4, (.ref 1 0))] [(0, some (bx (.sl 135 1 (List.map jD b)))), (1, some (bx (.val (.int .i64 (0)))))] (zN (zL 0) <| zN (uQ 1 ze3 zo3) <| zZ) ?_
 refine jA <| jA <| kx [(11, (vb (((a.length : Nat) : Int) != ((b.length : Nat) : Int))))] [] (zM <| zE (xA kC) <| zR (kM xE) <| zE (xA kC) <| zE cG <| zZ) ?_
 refine jG rfl (fun h1 => ?_) (fun h1 => ?_)
 ·replace h1 := bne_iff_ne.1 h1
  refine jA <| kx [] [(1, some (bx (.val (.int .i64 ((qY ((a.length : Nat) : Int) ((b.length : Nat) : Int)))))))] (zM <| zE (xA kC) <| zR (kM xE) <| zE (xA kC) <| zE (kD (t_cmp_int ((a.length : Nat) : Int) ((b.length : Nat) : Int))) <| zT (kZ qA) <| zZ) ?_
  refine jI ⟨_, (dY (cs := (bx (.val (.int .i64 ((qY ((a.length : Nat) : Int) ((b.length : Nat) : Int))))))) (d := (.val (.int .i64 ((qY ((a.length : Nat) : Int) ((b.length : Nat) : Int)))))) rfl rfl qA rfl rfl .nil), ?_⟩
  rw [← cmpI_len ha hb h1]; rfl
 ·replace h1 := bne_eq_false_iff_eq.1 h1
  have hl : a.length = b.length := by omega
  refine jF <| jA <| pwp_backL backs cb158 rfl 5 jD a 0 (fun _ => ⟨[(3, (.ref 0 0)), (4, (.ref 1 0))], [(0, some (bx (.sl 135 1 (List.map jD b)))), (1, some (bx (.val (.int .i64 (0)))))]⟩) (fun (j : Nat) _ => val (a.drop (a.length - j)) = val (b.drop (a.length - j))) () rfl rfl rfl rfl rfl rfl rfl rfl rfl rfl rfl rfl (fun _ => rfl) (fun _ => rfl) wk (by rw [Nat.sub_zero, List.drop_length, hl, List.drop_length]) (by omega) ?_ ?_
  ·rintro rl j ⟨⟩ hj he
   refine jA <| kx [(5, (jQ (a.length - 1 - j)))] [] (zM <| zZ) ?_
   refine kx [(6, (dC (a.getD (a.length - 1 - j) 0)))] [] (zM <| zZ) ?_
   refine jH <| jA <| kx [(26, (vb ((((a.getD (a.length - 1 - j) 0) : Nat) : Int) != (((b.getD (a.length - 1 - j) 0) : Nat) : Int))))] [] (zM <| zR (kM xE) <| zM <| zE (yO kC (a.length - 1 - j) (0 : Nat)) <| zE (nB qD) <| zE cG <| zZ) ?_
   refine jG rfl (fun h2 => ?_) (fun h2 => ?_)
   ·replace h2 := bne_iff_ne.1 h2
    refine jA <| kx [] [(1, some (bx (.val (.int .i64 ((qY (((a.getD (a.length - 1 - j) 0) : Nat) : Int) (((b.getD (a.length - 1 - j) 0) : Nat) : Int)))))))] (zM <| zR (kM xE) <| zM <| zE (yO kC (a.length - 1 - j) (0 : Nat)) <| zE (nB qD) <| zE (kD (t_cmp_uint32 (a.getD (a.length - 1 - j) 0) (b.getD (a.length - 1 - j) 0))) <| zT (kZ qA) <| zZ) ?_
    refine jI ⟨⟨[(4, (.ref 1 0))], [(1, some (bx (.val (.int .i64 ((qY (((a.getD (a.length - 1 - j) 0) : Nat) : Int) (((b.getD (a.length - 1 - j) 0) : Nat) : Int)))))))]⟩, wk, keys_of rfl, ⟨_, (dY (cs := (bx (.val (.int .i64 ((qY (((a.getD (a.length - 1 - j) 0) : Nat) : Int) (((b.getD (a.length - 1 - j) 0) : Nat) : Int))))))) (d := (.val (.int .i64 ((qY (((a.getD (a.length - 1 - j) 0) : Nat) : Int) (((b.getD (a.length - 1 - j) 0) : Nat) : Int)))))) rfl rfl qA rfl rfl .nil), ?_⟩⟩
    rw [← cmpI_top ha.1 hb.1 hl hj he h2]; rfl
   ·replace h2 := bne_eq_false_iff_eq.1 h2
    refine jF ?_
    exact ⟨(), wk, (by dsimp only; have e1 := cX a j hj; have e2 := cX b j (by omega); rw [← hl] at e2; rw [e1, e2, he]; omega)⟩
  ·rintro ⟨⟩ he
   refine jA <| kx [] [(1, some (bx (.val (.int .i64 (0)))))] (zT (kZ qA) <| zZ) ?_
   refine jI ⟨_, (dY (cs := (bx (.val (.int .i64 (0))))) (d := (.val (.int .i64 (0)))) rfl rfl qA rfl rfl .nil), ?_⟩
   rw [cmpI_same (by rw [Nat.sub_self, List.drop_zero, List.drop_zero] at he; exact he)]; rfl
theorem t_split (n : Nat) (hn : n < 18446744073709551616) : jZ Tryz.prog 147 [(.val (.int .u64 (((n : Nat) : Int))))] (.sl 135 1 (List.map jD (ofNat n))) := by
 refine jL Tryz.func147 rfl cb147 rfl ?_
 show qS _ _ _ _ ⟨[(0, (xX n))], []⟩
 refine jA <| kx [] [] (zE (oNl 135 1) <| zZ) ?_
 refine jA <| kx [(3, (.own 0 135 1 0))] [(0, some (bm jD []))] (zO 0 135 1 <| zZ) ?_
 refine jA <| jH <| kH (α := Nat × List Nat) (fun (m, g) => ⟨[(0, (xX m)), (3, (.own 0 135 1 g.length))], [(0, some (bm jD g))]⟩) (fun (m, g) => m ≤ n ∧ g ++ ofNat m = ofNat n) (fun (m, g) => m) (n, []) wk ⟨Nat.le_refl _, by rw [List.nil_append]⟩ ?_
 rintro ⟨m, g⟩ ⟨hm, hg⟩
 have hl := split_len hg hn
 refine jA <| jA <| kx [(5, (vb (decide (0 < ((m : Nat) : Int)))))] [] (zM <| zE mZ <| zZ) ?_
 refine jG (b := decide (0 < ((m : Nat) : Int))) rfl (fun h1 => ?_) (fun h1 => ?_)
 ·replace h1 := of_decide_eq_true h1
  refine jF <| jA <| jH <| kf [(3, (.own 0 135 1 ((g ++ [(m % 1000000000)]).length)))] [(0, some (bm jD (g ++ [(m % 1000000000)])))] (zM <| zM <| zE (oRe (m % 1000000000)) <| zE (yV zU zP (m % 1000000000)) <| zE (aA kC uU xP) <| zA jD g [(m % 1000000000)] rfl kC uU gB <| zM <| zF) ?_
  refine kx [(0, (xX (m / 1000000000)))] [] (zM <| zE (oQu (m / 1000000000)) <| zM <| zZ) ?_
  exact ⟨(m / 1000000000, g ++ [m % 1000000000]), wk, ⟨by omega, split_step hg h1⟩, (by first | omega | (dsimp only; omega))⟩
 ·replace h1 := of_decide_eq_false h1
  refine jW <| jA <| kY (vV (t := 3) (k := 0) (es := List.map jD g) rfl rfl (uO _ _ (fun _ => rfl)) (uS _ _ rfl) (vE _ _ (fun _ => rfl) rfl)) ?_
  refine kx [(2, (vl 135 1 jD g))] [] (zM <| zM <| zZ) ?_
  refine jI ⟨_, (.tmp (d := (.sl 135 1 (List.map jD g))) rfl .nil), ?_⟩
  rw [split_end hg h1]; rfl
end Go.Proofs.YtihgdjljnaekmaaGreat
namespace Go.Proofs.YtihgdjljnaekmaaGreat
open Go.Fid
set_option maxRecDepth 4000
set_option linter.unusedVariables false
set_option linter.unusedSimpArgs false
theorem cb138 : callB Tryz.prog 138 = true := by kernel_rfl
theorem cb151 : callB Tryz.prog 151 = true := by kernel_rfl
theorem cb169 : callB Tryz.prog 169 = true := by kernel_rfl
theorem cb170 : callB Tryz.prog 170 = true := by kernel_rfl
theorem cb175 : callB Tryz.prog 175 = true := by kernel_rfl
theorem cb193 : callB Tryz.prog 193 = true := by kernel_rfl
theorem uW : yQ Tryz.prog 49 0 = some 0 := by kernel_rfl
theorem vD : yQ Tryz.prog 49 1 = some 1 := by kernel_rfl
theorem cZ : kV Tryz.prog 4 = some (false, 1) := by kernel_rfl
theorem t_big (a : Nat) : jZ Tryz.prog 170 [(.val (.int .u32 (((a : Nat) : Int))))] (.val (.bool ((decide (1000000000 ≤ ((a : Nat) : Int)))))) := by
 refine jL Tryz.func170 rfl cb170 rfl ?_
 show qS _ _ _ _ ⟨[(0, (dC a))], []⟩
 refine jA <| kx [] [] (zM <| zZ) ?_
 refine jA <| kx [(2, (vb (decide (1000000000 ≤ ((a : Nat) : Int)))))] [] (zM <| zE oGe <| zM <| zZ) ?_
 refine jI ⟨_, (.tmp (d := (.val (.bool (decide (1000000000 ≤ ((a : Nat) : Int)))))) rfl .nil), ?_⟩
 rfl
theorem t_index (l : List Nat) (hb : l.length ≤ 17592186044416) : jZ Tryz.prog 193 [(.sl 135 1 (List.map jD l)), (.val (.func (.func 170) #[] #[]))] (.val (.int .i64 ((vI l)))) := by
 refine jL Tryz.func193 rfl cb193 rfl ?_
 show qS _ _ _ _ ⟨[(0, (vl 135 1 jD l)), (1, (.d (.val (.func (.func 170) #[] #[]))))], []⟩
 refine jA <| kx [] [] (zM <| zZ) ?_
 refine jA <| jA <| kx [(7, (jQ l.length)), (8, (jQ 0))] [] (zM <| zE (xA kC) <| zM <| zZ) ?_
 refine jH <| kH (α := Nat) (fun i => ⟨[(0, (vl 135 1 jD l)), (1, (.d (.val (.func (.func 170) #[] #[])))), (7, (jQ l.length)), (8, (jQ i))], []⟩) (fun i => i ≤ l.length ∧ Dig (l.take i)) (fun i => l.length - i) 0 wk ⟨Nat.zero_le _, zY⟩ ?_
 rintro i ⟨hi, hd⟩
 refine jA <| kx [(9, (vb (decide (((i : Nat) : Int) < ((l.length : Nat) : Int)))))] [] (zE uP <| zZ) ?_
 refine jA <| jG rfl (fun h1 => ?_) (fun h1 => ?_)
 ·replace h1 := of_decide_eq_true h1
  refine jF <| jA <| jH <| jA <| kx [(5, (jQ i))] [] (zM <| zM <| zZ) ?_
  refine jA <| kx [(16, (vb (decide (1000000000 ≤ (((l.getD i 0) : Nat) : Int)))))] [] (zM <| zM <| zM <| zE (yO kC i (0 : Nat)) <| zE (nB qD) <| zE (kD (t_big (l.getD i 0))) <| zZ) ?_
  refine jG rfl (fun h2 => ?_) (fun h2 => ?_)
  ·replace h2 := of_decide_eq_true h2
   refine jA <| kx [(4, (jQ i))] [] (zM <| zM <| zZ) ?_
   refine jI ⟨_, (.tmp (d := (.val (.int .i64 (((i : Nat) : Int))))) rfl .nil), ?_⟩
   rw [firstBig_at (by omega) hd (by omega)]; rfl
  ·replace h2 := of_decide_eq_false h2
   refine jF <| kx [(8, (jQ (i + 1)))] [] (zE (qQ (i + 1)) <| zM <| zZ) ?_
   exact ⟨(i + 1), wk, ⟨by omega, dig_take_succ (by omega) hd (by omega)⟩, (by omega)⟩
 ·replace h1 := of_decide_eq_false h1
  refine jW <| jA <| kx [(4, (vi (-1)))] [] (zM <| zZ) ?_
  refine jI ⟨_, (.tmp (d := (.val (.int .i64 (-1)))) rfl .nil), ?_⟩
  rw [fR (by rw [List.take_of_length_le (by omega)] at hd; exact hd)]; rfl
theorem t_contains (l : List Nat) (hb : l.length ≤ 17592186044416) : jZ Tryz.prog 169 [(.sl 135 1 (List.map jD l)), (.val (.func (.func 170) #[] #[]))] (.val (.bool ((decide (0 ≤ vI l))))) := by
 refine jL Tryz.func169 rfl cb169 rfl ?_
 show qS _ _ _ _ ⟨[(0, (vl 135 1 jD l)), (1, (.d (.val (.func (.func 170) #[] #[]))))], []⟩
 refine jA <| kx [] [] (zM <| zZ) ?_
 refine jA <| kx [(4, (vb (decide (0 ≤ (vI l)))))] [] (zM <| zM <| zE (kD (t_index l (by omega))) <| zE oGe <| zM <| zZ) ?_
 refine jI ⟨_, (.tmp (d := (.val (.bool (decide (0 ≤ (vI l)))))) rfl .nil), ?_⟩
 rfl
theorem t_valid (x : kG) (hb : x.gs.length ≤ 17592186044416) : jZ Tryz.prog 138 [(jJ x)] (.val (.bool ((uI x)))) := by
 refine jL Tryz.func138 rfl cb138 rfl ?_
 show qS _ _ _ _ ⟨[(0, (.d (jJ x)))], []⟩
 refine jA <| kx [(1, (.ref 0 0))] [(0, some (bx (jJ x)))] (zN (zL 0) <| zM <| zZ) ?_
 refine jA <| kx [(3, (jQ x.gs.length))] [] (zE (kQ vD) <| zR (kM xE) <| zE (xA kC) <| zM <| zZ) ?_
 refine jA <| jA <| kx [(8, (vb (((x.gs.length : Nat) : Int) == 0)))] [] (zM <| zE gF <| zZ) ?_
 refine jG (b := (((x.gs.length : Nat) : Int) == 0)) rfl (fun h1 => ?_) (fun h1 => ?_)
 ·replace h1 := eq_of_beq h1
  refine jA <| kx [(2, (vb (!x.neg)))] [] (zE (kQ uW) <| zR (kM cZ) <| zE oNt <| zM <| zZ) ?_
  refine jI ⟨_, (.tmp (d := (.val (.bool (!x.neg)))) rfl .nil), ?_⟩
  rw [show uI x = !x.neg from if_pos h1]; rfl
 ·replace h1 := ne_of_beq_false h1
  refine jF <| jA <| kx [(2, (vb (((((x.gs.getD (x.gs.length - 1) 0) : Nat) : Int) != 0) && !(decide (0 ≤ vI x.gs)))))] [] ?_ ?_
  ·refine zE (kQ vD) <| zR (kM xE) <| zM <| zE (oSb (x.gs.length - 1)) <| zE (yO kC (x.gs.length - 1) (0 : Nat)) <| zE (nB qD) <| zE cG <| zE (oV (vb ((((x.gs.getD (x.gs.length - 1) 0) : Nat) : Int) != 0)) (kP (by kernel_rfl))) <| ?_
   rcases hb2 : ((((x.gs.getD (x.gs.length - 1) 0) : Nat) : Int) != 0) with _ | _
   ·replace hb2 := bne_eq_false_iff_eq.1 hb2
    exact zK <| zK <| zK <| zK <| zE oPf <| zM <| zZ
   ·replace hb2 := bne_iff_ne.1 hb2
    exact zE (kQ vD) <| zR (kM xE) <| zE (kD (t_contains x.gs (by omega))) <| zE oNt <| zE oPa <| zM <| zZ
  refine jI ⟨_, (.tmp (d := (.val (.bool ((((((x.gs.getD (x.gs.length - 1) 0) : Nat) : Int) != 0) && !(decide (0 ≤ vI x.gs))))))) rfl .nil), ?_⟩
  rw [show uI x = _ from if_neg h1]; rfl
theorem yB (x : kG) (hb : x.gs.length ≤ 17592186044416) : jZ Tryz.prog 151 [(jJ x)] (.sl 135 1 (List.map jD (jV x))) := by
 refine jL Tryz.func151 rfl cb151 rfl ?_
 show qS _ _ _ _ ⟨[(0, (.d (jJ x)))], []⟩
 refine jA <| kx [(1, (.ref 0 0))] [(0, some (bx (jJ x)))] (zN (zL 0) <| zE (oNl 135 1) <| zZ) ?_
 refine jA <| jA <| kx [(5, (vb (!(uI x))))] [] (zR (kT jM) <| zE (kD (t_valid x (by omega))) <| zE oNt <| zZ) ?_
 refine jG (b := !(uI x)) rfl (fun h1 => ?_) (fun h1 => ?_)
 ·refine jA <| kx [(2, (vl 135 1 jD []))] [] (zE (oNl 135 1) <| zZ) ?_
  refine jI ⟨_, (.tmp (d := (.sl 135 1 (List.map jD []))) rfl .nil), ?_⟩
  rw [show jV x = [] from if_neg (by simpa using h1)]; rfl
 ·refine jF <| jA <| kx [(2, (vl 135 1 jD x.gs))] [] (zE (kQ vD) <| zR (kM xE) <| zM <| zZ) ?_
  refine jI ⟨_, (.tmp (d := (.sl 135 1 (List.map jD x.gs))) rfl .nil), ?_⟩
  rw [show jV x = x.gs from if_pos (by simpa using h1)]; rfl
theorem t_clone (l : List Nat) (hb : l.length ≤ 17592186044416) : jZ Tryz.prog 175 [(.sl 135 1 (List.map jD l))] (.sl 135 1 (List.map jD l)) := by
 refine jL Tryz.func175 rfl cb175 rfl ?_
 show qS _ _ _ _ ⟨[(0, (vl 135 1 jD l))], []⟩
 refine jA <| kx [] [] (zE (oNl 135 1) <| zZ) ?_
 refine jA <| jA <| pwp_nilq rfl rfl rfl rfl rfl rfl kC rfl rfl rfl (fun nb hnb => ?_)
 refine jG (b := nb) rfl (fun h1 => ?_) (fun h1 => ?_)
 ·refine jA <| kx [(2, (vl 135 1 jD []))] [] (zE (oNl 135 1) <| zZ) ?_
  refine jI ⟨_, (.tmp (d := (.sl 135 1 (List.map jD []))) rfl .nil), ?_⟩
  rw [List.map_eq_nil_iff.1 (hnb h1)]; rfl
 ·refine jF <| jA <| kf [(2, (.own 0 135 1 (([] ++ l).length)))] [(0, some (bm jD ([] ++ l)))] (zN (oBo 0 kC uU xP) <| zM <| zA jD [] l rfl kC uU gB <| zM <| zF) ?_
  refine kY (vV (t := 2) (k := 0) (es := List.map jD ([] ++ l)) rfl rfl (uO _ _ (fun _ => rfl)) (uS _ _ rfl) (vE _ _ (fun _ => rfl) rfl)) ?_
  refine jI ⟨_, (.tmp (d := (.sl 135 1 (List.map jD ([] ++ l)))) rfl .nil), ?_⟩
  rfl
end Go.Proofs.YtihgdjljnaekmaaGreat
