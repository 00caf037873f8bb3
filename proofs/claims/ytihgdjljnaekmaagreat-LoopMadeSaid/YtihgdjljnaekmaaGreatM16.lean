/- Part 16 of a proof: rules, plain facts, and functions walked. -/
import Derived.Test.YtihgdjljnaekmaaGreatM13
import Derived.Test.YtihgdjljnaekmaaGreatM8
import Derived.Test.YtihgdjljnaekmaaGreatM15
import Derived.Test.YtihgdjljnaekmaaGreatChecked
import Derived.RangeFuncBox
import Derived.Shelf.Abstract
import Derived.OwnWalkIn
import Derived.TacticsInMore
import Derived.LoopNIn
import Derived.LoopIn
namespace Go.Proofs.YtihgdjljnaekmaaGreat
open Go.Fid
set_option maxRecDepth 4000
set_option linter.unusedVariables false
set_option linter.unusedSimpArgs false
theorem by135 : bytesB Tryz.prog 135 = some 4 := by kernel_rfl
theorem cb150 : callB Tryz.prog 150 = true := by kernel_rfl
theorem cb179 : callB Tryz.prog 179 = true := by kernel_rfl
theorem cb180 : callB Tryz.prog 180 = true := by kernel_rfl
theorem cb181 : callB Tryz.prog 181 = true := by kernel_rfl
theorem cb198 : callB Tryz.prog 198 = true := by kernel_rfl
theorem el47 : elemB Tryz.prog 47 = some (135, 1) := by kernel_rfl
theorem in135 : intB Tryz.prog 135 = some .u32 := by kernel_rfl
theorem in180 : intB Tryz.prog 180 = some .u64 := by kernel_rfl
theorem sh135 : shapeB Tryz.prog 135 = some (false, 1) := by kernel_rfl
theorem un135 : (Tryz.prog.underlying 135).isSome = true := by kernel_rfl
theorem un180 : (Tryz.prog.underlying 180).isSome = true := by kernel_rfl
theorem ze135 : zeroB Tryz.prog 135 = some [.int .u32 0] := by kernel_rfl
theorem zo135 : ZOk [.int .u32 0] [.val (.int .u32 0)] := by simp [ZOk, Value.oneCell']
theorem t_at (l : List Nat) (i : Nat) : Takes Tryz.prog 198 [(.sl 135 1 (List.map enc_u32 l)), (.val (.int .i64 (((i : Nat) : Int))))] (.val (.int .u32 ((((l.getD i 0) : Nat) : Int)))) := by
  refine fn_intro Tryz.func198 rfl cb198 rfl ?_
  show PWp _ _ _ _ ⟨[(0, (vl 135 1 enc_u32 l)), (1, (vin i))], []⟩
  refine pwp_seq <| kx [] [] (zM <| zZ) ?_
  refine pwp_seq <| pwp_seq <| kx [(8, (vb (decide (((i : Nat) : Int) < ((l.length : Nat) : Int)))))] [] (zM <| zM <| zE (oLm el47) <| zE oLt <| zZ) ?_
  refine pwp_cond rfl (fun h1 => ?_) (fun h1 => ?_)
  · replace h1 := of_decide_eq_true h1
    refine pwp_seq <| kx [(4, (vwn (l.getD i 0)))] [] (zM <| zM <| zE (oXl el47 i (0 : Nat)) <| zE (oC1 sh135) <| zM <| zZ) ?_
    refine pwp_ret ⟨_, (.tmp (d := (.val (.int .u32 ((((l.getD i 0) : Nat) : Int))))) rfl .nil), ?_⟩
    rfl
  · replace h1 := of_decide_eq_false h1
    refine pwp_skip <| pwp_seq <| kx [(4, (vwn 0))] [] (zM <| zZ) ?_
    refine pwp_ret ⟨_, (.tmp (d := (.val (.int .u32 (0)))) rfl .nil), ?_⟩
    rw [show l.getD i 0 = 0 from getD_out (by omega)]; rfl
theorem t_trim (l0 : List Nat) (hd : Dig l0) (hb : l0.length ≤ 17592186044416) : Takes Tryz.prog 179 [(.sl 135 1 (List.map enc_u32 l0))] (.sl 135 1 (List.map enc_u32 (ofNat (val l0)))) := by
  refine fn_intro Tryz.func179 rfl cb179 rfl ?_
  show PWp _ _ _ _ ⟨[(0, (vl 135 1 enc_u32 l0))], []⟩
  refine pwp_seq <| kx [] [] (zE (oNl 135 1) <| zZ) ?_
  refine pwp_seq <| pwp_block <| pwp_loop (α := List Nat) (fun l => ⟨[(0, (vl 135 1 enc_u32 l))], []⟩) (fun l => Dig l ∧ val l = val l0 ∧ l.length ≤ l0.length) (fun l => l.length) l0 wk ⟨hd, rfl, Nat.le_refl _⟩ ?_
  rintro l ⟨hl, hv, hle⟩
  refine pwp_seq <| pwp_seq <| kx [(14, (vb (decide (0 < ((l.length : Nat) : Int)) && ((((l.getD (l.length - 1) 0) : Nat) : Int) == 0))))] [] ?_ ?_
  · refine zM <| zE (oLm el47) <| zE oGt <| zE (oV (vb (decide (0 < ((l.length : Nat) : Int)))) (mv_ok (by kernel_rfl))) <| ?_
    rcases hb1 : (decide (0 < ((l.length : Nat) : Int))) with _ | _
    · replace hb1 := of_decide_eq_false hb1
      exact zK <| zK <| zK <| zK <| zK <| zK <| zK <| zE oPf <| zZ
    · replace hb1 := of_decide_eq_true hb1
      exact zM <| zM <| zE (oLm el47) <| zE (oSb (l.length - 1)) <| zE (oXl el47 (l.length - 1) (0 : Nat)) <| zE (oC1 sh135) <| zE oEq <| zE oPa <| zZ
  refine pwp_cond rfl (fun h2 => ?_) (fun h2 => ?_)
  · obtain ⟨hp, _⟩ := trim_cond h2
    refine pwp_skip <| pwp_block <| kx [(0, (vl 135 1 enc_u32 (List.take (l.length - 1) l)))] [] (zM <| zM <| zE (oLm el47) <| zE (oSb (l.length - 1)) <| zE (e_slc (l := 0) (h := (l.length - 1)) (kl := .i64) (kh := .i64) (es' := List.map enc_u32 (List.take (l.length - 1) l)) (by exact rfl) el47 (by exact rfl) (by exact rfl) (by exact rfl) (Nat.zero_le _) (by simp only [List.length_map]; omega) (by rw [List.drop_zero, List.map_take])) <| zM <| zZ) ?_
    exact ⟨(l.take (l.length - 1)), wk, (trim_step hl hv hle h2), (trim_less h2)⟩
  · refine pwp_exit <| pwp_seq <| kx [(2, (vl 135 1 enc_u32 l))] [] (zM <| zM <| zZ) ?_
    refine pwp_ret ⟨_, (.tmp (d := (.sl 135 1 (List.map enc_u32 l))) rfl .nil), ?_⟩
    rw [trim_end hl hv h2]; rfl
theorem t_plus (a b : List Nat) (hda : Dig a) (hdb : Dig b) (hla : a.length ≤ 8796093022208) (hlb : b.length ≤ 8796093022208) : Takes Tryz.prog 180 [(.sl 135 1 (List.map enc_u32 a)), (.sl 135 1 (List.map enc_u32 b))] (.sl 135 1 (List.map enc_u32 (ofNat (val a + val b)))) := by
  refine fn_intro Tryz.func180 rfl cb180 rfl ?_
  show PWp _ _ _ _ ⟨[(0, (vl 135 1 enc_u32 a)), (1, (vl 135 1 enc_u32 b))], []⟩
  refine pwp_seq <| kx [] [] (zE (oNl 135 1) <| zZ) ?_
  refine pwp_seq <| kx [(5, (.own 0 135 1 ((max a.length b.length) + 1)))] [(0, some (bm enc_u32 (List.replicate ((max a.length b.length) + 1) 0)))] (zM <| zE (oLm el47) <| zM <| zE (oLm el47) <| zE (oMx (max a.length b.length)) <| zE (oAd ((max a.length b.length) + 1)) <| zN (oMk 0 enc_u32 (0 : Nat) ((max a.length b.length) + 1) ((max a.length b.length) + 1) el47 ze135 zo135 by135) <| zM <| zZ) ?_
  refine pwp_seq <| kx [(6, (vwn 0))] [] (zM <| zZ) ?_
  refine pwp_seq <| pwp_seq <| kx [(17, (vin ((max a.length b.length) + 1))), (18, (vin 0))] [] (zM <| zE (oLo el47) <| zM <| zZ) ?_
  refine pwp_block <| pwp_loop (α := Nat × List Nat × Nat) (fun (i, out, c) => ⟨[(0, (vl 135 1 enc_u32 a)), (1, (vl 135 1 enc_u32 b)), (5, (.own 0 135 1 ((max a.length b.length) + 1))), (6, (vwn c)), (17, (vin ((max a.length b.length) + 1))), (18, (vin i))], [(0, some (bm enc_u32 out))]⟩) (fun (i, out, c) => out.length = max a.length b.length + 1 ∧ Dig out ∧ i ≤ max a.length b.length + 1 ∧ c ≤ 1 ∧ val (out.take i) + pw i * c = val (a.take i) + val (b.take i)) (fun (i, out, c) => max a.length b.length + 1 - i) (0, List.replicate (max a.length b.length + 1) 0, 0) wk ⟨by simp, dig_replicate _, Nat.zero_le _, Nat.zero_le _, by simp [val]⟩ ?_
  rintro ⟨i, out, c⟩ ⟨hlen, hdo, hi, hc, hv⟩
  have hai := hda.getD i
  have hbi := hdb.getD i
  refine pwp_seq <| kx [(19, (vb (decide (((i : Nat) : Int) < ((((max a.length b.length) + 1) : Nat) : Int)))))] [] (zE oLt <| zZ) ?_
  refine pwp_seq <| pwp_cond rfl (fun h1 => ?_) (fun h1 => ?_)
  · replace h1 := of_decide_eq_true h1
    refine pwp_skip <| pwp_seq <| pwp_block <| pwp_seq <| kx [(7, (vin i))] [] (zM <| zM <| zZ) ?_
    refine pwp_seq <| kx [(8, (vwn (((a.getD i 0) + (b.getD i 0)) + c)))] [] (zM <| zM <| zE (oCl (t_at a i)) <| zM <| zM <| zE (oCl (t_at b i)) <| zE (oAd ((a.getD i 0) + (b.getD i 0))) <| zM <| zE (oAd (((a.getD i 0) + (b.getD i 0)) + c)) <| zM <| zZ) ?_
    refine pwp_seq <| kx [(6, (vwn 0))] [] (zM <| zZ) ?_
    refine pwp_seq <| pwp_seq <| kx [(31, (vb (decide (1000000000 ≤ (((((a.getD i 0) + (b.getD i 0)) + c) : Nat) : Int)))))] [] (zM <| zE oGe <| zZ) ?_
    refine pwp_cond rfl (fun h2 => ?_) (fun h2 => ?_)
    · replace h2 := of_decide_eq_true h2
      refine kx [(6, (vwn 1)), (8, (vwn ((((a.getD i 0) + (b.getD i 0)) + c) - 1000000000)))] [] (zM <| zE (oSb ((((a.getD i 0) + (b.getD i 0)) + c) - 1000000000)) <| zM <| zM <| zZ) ?_
      refine kx [] [(0, some (bm enc_u32 (out.set i ((((a.getD i 0) + (b.getD i 0)) + c) - 1000000000))))] (zM <| zM <| zM <| zE (oXo el47 i) <| zT (oSp sh135 i ((((a.getD i 0) + (b.getD i 0)) + c) - 1000000000)) <| zZ) ?_
      refine kx [(18, (vin (i + 1)))] [] (zE (oAd (i + 1)) <| zM <| zZ) ?_
      exact ⟨(i + 1, out.set i (a.getD i 0 + b.getD i 0 + c - 1000000000), 1), wk, (by obtain ⟨q1, q2, q3⟩ := plus_step (s := a.getD i 0 + b.getD i 0 + c - 1000000000) (c' := 1) hlen hdo (by omega) hv (by omega) (by omega); exact ⟨q1, q2, by omega, by omega, q3⟩), (by first | omega | (dsimp only; omega))⟩
    · replace h2 := of_decide_eq_false h2
      refine pwp_skip <| kx [] [(0, some (bm enc_u32 (out.set i (((a.getD i 0) + (b.getD i 0)) + c))))] (zM <| zM <| zM <| zE (oXo el47 i) <| zT (oSp sh135 i (((a.getD i 0) + (b.getD i 0)) + c)) <| zZ) ?_
      refine kx [(18, (vin (i + 1)))] [] (zE (oAd (i + 1)) <| zM <| zZ) ?_
      exact ⟨(i + 1, out.set i (a.getD i 0 + b.getD i 0 + c), 0), wk, (by obtain ⟨q1, q2, q3⟩ := plus_step (s := a.getD i 0 + b.getD i 0 + c) (c' := 0) hlen hdo (by omega) hv (by omega) (by omega); exact ⟨q1, q2, by omega, by omega, q3⟩), (by first | omega | (dsimp only; omega))⟩
  · replace h1 := of_decide_eq_false h1
    have hie : i = max a.length b.length + 1 := by omega
    rw [hie] at hv
    refine pwp_exit <| pwp_seq <| pwp_sim (publish (t := 5) (k := 0) (es := List.map enc_u32 out) rfl rfl (pub_cells _ _ (fun _ => rfl)) (map_len _ _ hlen) (pub_take _ _ (fun _ => rfl) hlen)) ?_
    refine kx [(4, (vl 135 1 enc_u32 (ofNat (val out))))] [] (zM <| zE (oCl (t_trim out (by assumption) (by omega))) <| zM <| zZ) ?_
    refine pwp_ret ⟨_, (.tmp (d := (.sl 135 1 (List.map enc_u32 (ofNat (val out))))) rfl .nil), ?_⟩
    rw [plus_end hda hdb hlen hv]; rfl
theorem t_minus (a b : List Nat) (hda : Dig a) (hdb : Dig b) (hba : val b ≤ val a) (hla : a.length ≤ 8796093022208) : Takes Tryz.prog 181 [(.sl 135 1 (List.map enc_u32 a)), (.sl 135 1 (List.map enc_u32 b))] (.sl 135 1 (List.map enc_u32 (ofNat (val a - val b)))) := by
  refine fn_intro Tryz.func181 rfl cb181 rfl ?_
  show PWp _ _ _ _ ⟨[(0, (vl 135 1 enc_u32 a)), (1, (vl 135 1 enc_u32 b))], []⟩
  refine pwp_seq <| kx [] [] (zE (oNl 135 1) <| zZ) ?_
  refine pwp_seq <| kx [(5, (.own 0 135 1 a.length))] [(0, some (bm enc_u32 (List.replicate a.length 0)))] (zM <| zE (oLm el47) <| zN (oMk 0 enc_u32 (0 : Nat) a.length a.length el47 ze135 zo135 by135) <| zM <| zZ) ?_
  refine pwp_seq <| kx [(6, (vwn 0))] [] (zM <| zZ) ?_
  refine pwp_seq <| pwp_seq <| kx [(13, (vin a.length)), (14, (vin 0))] [] (zM <| zE (oLo el47) <| zM <| zZ) ?_
  refine pwp_block <| pwp_loop (α := Nat × List Nat × Nat) (fun (i, out, c) => ⟨[(0, (vl 135 1 enc_u32 a)), (1, (vl 135 1 enc_u32 b)), (5, (.own 0 135 1 a.length)), (6, (vwn c)), (13, (vin a.length)), (14, (vin i))], [(0, some (bm enc_u32 out))]⟩) (fun (i, out, c) => out.length = a.length ∧ Dig out ∧ i ≤ a.length ∧ c ≤ 1 ∧ val (out.take i) + val (b.take i) = val (a.take i) + pw i * c) (fun (i, out, c) => a.length - i) (0, List.replicate a.length 0, 0) wk ⟨by simp, dig_replicate _, Nat.zero_le _, Nat.zero_le _, by simp [val]⟩ ?_
  rintro ⟨i, out, c⟩ ⟨hlen, hdo, hi, hc, hv⟩
  have hai := hda.getD i
  have hbi := hdb.getD i
  refine pwp_seq <| kx [(15, (vb (decide (((i : Nat) : Int) < ((a.length : Nat) : Int)))))] [] (zE oLt <| zZ) ?_
  refine pwp_seq <| pwp_cond rfl (fun h1 => ?_) (fun h1 => ?_)
  · replace h1 := of_decide_eq_true h1
    refine pwp_skip <| pwp_seq <| pwp_block <| pwp_seq <| kx [(7, (vin i))] [] (zM <| zM <| zZ) ?_
    refine pwp_seq <| kx [(8, (vwn ((b.getD i 0) + c)))] [] (zM <| zM <| zE (oCl (t_at b i)) <| zM <| zE (oAd ((b.getD i 0) + c)) <| zM <| zZ) ?_
    refine pwp_seq <| kx [(6, (vwn 0))] [] (zM <| zZ) ?_
    refine pwp_seq <| kx [(27, (vb (decide ((((a.getD i 0) : Nat) : Int) < ((((b.getD i 0) + c) : Nat) : Int)))))] [] (zM <| zM <| zE (oXl el47 i (0 : Nat)) <| zE (oC1 sh135) <| zM <| zE oLt <| zZ) ?_
    refine pwp_cond rfl (fun h2 => ?_) (fun h2 => ?_)
    · replace h2 := of_decide_eq_true h2
      refine kx [(6, (vwn 1))] [(0, some (bm enc_u32 (out.set i (((a.getD i 0) + 1000000000) - ((b.getD i 0) + c)))))] (zM <| zM <| zM <| zM <| zE (oXl el47 i (0 : Nat)) <| zE (oC1 sh135) <| zE (oAd ((a.getD i 0) + 1000000000)) <| zM <| zE (oSb (((a.getD i 0) + 1000000000) - ((b.getD i 0) + c))) <| zE (oXo el47 i) <| zT (oSp sh135 i (((a.getD i 0) + 1000000000) - ((b.getD i 0) + c))) <| zM <| zZ) ?_
      refine kx [(14, (vin (i + 1)))] [] (zE (oAd (i + 1)) <| zM <| zZ) ?_
      exact ⟨(i + 1, out.set i (a.getD i 0 + 1000000000 - (b.getD i 0 + c)), 1), wk, (by obtain ⟨q1, q2, q3⟩ := minus_step (s := a.getD i 0 + 1000000000 - (b.getD i 0 + c)) (c' := 1) hlen hdo (by omega) hv (by omega) (by omega); exact ⟨q1, q2, by omega, by omega, q3⟩), (by first | omega | (dsimp only; omega))⟩
    · replace h2 := of_decide_eq_false h2
      refine kx [] [(0, some (bm enc_u32 (out.set i ((a.getD i 0) - ((b.getD i 0) + c)))))] (zM <| zM <| zM <| zM <| zE (oXl el47 i (0 : Nat)) <| zE (oC1 sh135) <| zM <| zE (oSb ((a.getD i 0) - ((b.getD i 0) + c))) <| zE (oXo el47 i) <| zT (oSp sh135 i ((a.getD i 0) - ((b.getD i 0) + c))) <| zZ) ?_
      refine kx [(14, (vin (i + 1)))] [] (zE (oAd (i + 1)) <| zM <| zZ) ?_
      exact ⟨(i + 1, out.set i (a.getD i 0 - (b.getD i 0 + c)), 0), wk, (by obtain ⟨q1, q2, q3⟩ := minus_step (s := a.getD i 0 - (b.getD i 0 + c)) (c' := 0) hlen hdo (by omega) hv (by omega) (by omega); exact ⟨q1, q2, by omega, by omega, q3⟩), (by first | omega | (dsimp only; omega))⟩
  · replace h1 := of_decide_eq_false h1
    have hie : i = a.length := by omega
    rw [hie] at hv
    refine pwp_exit <| pwp_seq <| pwp_sim (publish (t := 5) (k := 0) (es := List.map enc_u32 out) rfl rfl (pub_cells _ _ (fun _ => rfl)) (map_len _ _ hlen) (pub_take _ _ (fun _ => rfl) hlen)) ?_
    refine kx [(4, (vl 135 1 enc_u32 (ofNat (val out))))] [] (zM <| zE (oCl (t_trim out (by assumption) (by omega))) <| zM <| zZ) ?_
    refine pwp_ret ⟨_, (.tmp (d := (.sl 135 1 (List.map enc_u32 (ofNat (val out))))) rfl .nil), ?_⟩
    rw [minus_end hda hdb hdo hba hlen hv]; rfl
theorem t_times (a b : List Nat) (hda : Dig a) (hdb : Dig b) (hla : a.length ≤ 4398046511104) (hlb : b.length ≤ 4398046511104) : Takes Tryz.prog 150 [(.sl 135 1 (List.map enc_u32 a)), (.sl 135 1 (List.map enc_u32 b))] (.sl 135 1 (List.map enc_u32 (ofNat (val a * val b)))) := by
  refine fn_intro Tryz.func150 rfl cb150 rfl ?_
  show PWp _ _ _ _ ⟨[(0, (vl 135 1 enc_u32 a)), (1, (vl 135 1 enc_u32 b))], []⟩
  refine pwp_seq <| kx [] [] (zE (oNl 135 1) <| zZ) ?_
  refine pwp_seq <| kx [(5, (.own 0 135 1 (a.length + b.length)))] [(0, some (bm enc_u32 (List.replicate (a.length + b.length) 0)))] (zM <| zE (oLm el47) <| zM <| zE (oLm el47) <| zE (oAd (a.length + b.length)) <| zN (oMk 0 enc_u32 (0 : Nat) (a.length + b.length) (a.length + b.length) el47 ze135 zo135 by135) <| zM <| zZ) ?_
  refine pwp_seq <| pwp_seq <| kx [(18, (vl 135 1 enc_u32 a)), (19, (vin a.length)), (20, (vin 0))] [] (zM <| zE (oLm el47) <| zM <| zZ) ?_
  refine pwp_block <| pwp_loop (α := Nat × List Nat) (fun (i, out) => ⟨[(1, (vl 135 1 enc_u32 b)), (5, (.own 0 135 1 (a.length + b.length))), (18, (vl 135 1 enc_u32 a)), (19, (vin a.length)), (20, (vin i))], [(0, some (bm enc_u32 out))]⟩) (fun (i, out) => out.length = a.length + b.length ∧ Dig out ∧ i ≤ a.length ∧ (∀ k, i + b.length ≤ k → out.getD k 0 = 0) ∧ val out = val (a.take i) * val b) (fun (i, out) => a.length - i) (0, List.replicate (a.length + b.length) 0) wk ⟨by simp, dig_replicate _, Nat.zero_le _, fun k _ => getD_replicate _ k, by simp [val, val_replicate]⟩ ?_
  rintro ⟨i, out⟩ ⟨hlen, hdo, hi, hz, hv⟩
  have hai := hda.getD i
  refine pwp_seq <| kx [(21, (vb (decide (((i : Nat) : Int) < ((a.length : Nat) : Int)))))] [] (zE oLt <| zZ) ?_
  refine pwp_seq <| pwp_cond rfl (fun h1 => ?_) (fun h1 => ?_)
  · replace h1 := of_decide_eq_true h1
    refine pwp_skip <| pwp_seq <| pwp_block <| pwp_seq <| kx [(6, (vin i)), (7, (vwn (a.getD i 0)))] [] (zM <| zE (oXl el47 i (0 : Nat)) <| zE (oC1 sh135) <| zM <| zM <| zZ) ?_
    refine pwp_seq <| kx [(8, (vqn 0))] [] (zM <| zZ) ?_
    refine pwp_seq <| pwp_seq <| kx [(25, (vl 135 1 enc_u32 b)), (26, (vin b.length)), (27, (vin 0))] [] (zM <| zE (oLm el47) <| zM <| zZ) ?_
    refine pwp_block <| pwp_loop (α := Nat × List Nat × Nat) (fun (j, o2, c) => ⟨[(1, (vl 135 1 enc_u32 b)), (5, (.own 0 135 1 (a.length + b.length))), (6, (vin i)), (7, (vwn (a.getD i 0))), (8, (vqn c)), (18, (vl 135 1 enc_u32 a)), (19, (vin a.length)), (20, (vin i)), (25, (vl 135 1 enc_u32 b)), (26, (vin b.length)), (27, (vin j))], [(0, some (bm enc_u32 o2))]⟩) (fun (j, o2, c) => o2.length = a.length + b.length ∧ Dig o2 ∧ j ≤ b.length ∧ c < 1000000000 ∧ (∀ k, i + b.length ≤ k → o2.getD k 0 = 0) ∧ val o2 + pw (i + j) * c = val (a.take i) * val b + pw i * (a.getD i 0 * val (b.take j))) (fun (j, o2, c) => b.length - j) (0, out, 0) wk ⟨hlen, hdo, Nat.zero_le _, by decide, hz, by simp [val, hv]⟩ ?_
    rintro ⟨j, o2, c⟩ ⟨hlen2, hdo2, hj, hc, hz2, hv2⟩
    have hbj := hdb.getD j
    have hoj := hdo2.getD (i + j)
    have hpq : a.getD i 0 * b.getD j 0 ≤ 999999999 * 999999999 := Nat.mul_le_mul (by omega) (by omega)
    refine pwp_seq <| kx [(28, (vb (decide (((j : Nat) : Int) < ((b.length : Nat) : Int)))))] [] (zE oLt <| zZ) ?_
    refine pwp_seq <| pwp_cond rfl (fun h2 => ?_) (fun h2 => ?_)
    · replace h2 := of_decide_eq_true h2
      refine pwp_skip <| pwp_seq <| pwp_block <| pwp_seq <| kx [(9, (vin j)), (10, (vwn (b.getD j 0)))] [] (zM <| zE (oXl el47 j (0 : Nat)) <| zE (oC1 sh135) <| zM <| zM <| zZ) ?_
      refine pwp_seq <| kx [(11, (vqn (((o2.getD (i + j) 0) + ((a.getD i 0) * (b.getD j 0))) + c)))] [] (zM <| zM <| zM <| zE (oAd (i + j)) <| zE (oXo el47 (i + j)) <| zR (oLp sh135 (i + j) (0 : Nat)) <| zE (oCv un135 in180 (o2.getD (i + j) 0)) <| zM <| zE (oCv un135 in180 (a.getD i 0)) <| zM <| zE (oCv un135 in180 (b.getD j 0)) <| zE (oMl ((a.getD i 0) * (b.getD j 0))) <| zE (oAd ((o2.getD (i + j) 0) + ((a.getD i 0) * (b.getD j 0)))) <| zM <| zE (oAd (((o2.getD (i + j) 0) + ((a.getD i 0) * (b.getD j 0))) + c)) <| zM <| zZ) ?_
      refine kx [(8, (vqn ((((o2.getD (i + j) 0) + ((a.getD i 0) * (b.getD j 0))) + c) / 1000000000)))] [(0, some (bm enc_u32 (o2.set (i + j) ((((o2.getD (i + j) 0) + ((a.getD i 0) * (b.getD j 0))) + c) % 1000000000))))] (zM <| zM <| zM <| zE (oAd (i + j)) <| zM <| zE (oRe ((((o2.getD (i + j) 0) + ((a.getD i 0) * (b.getD j 0))) + c) % 1000000000)) <| zE (oCv un180 in135 ((((o2.getD (i + j) 0) + ((a.getD i 0) * (b.getD j 0))) + c) % 1000000000)) <| zM <| zE (oQu ((((o2.getD (i + j) 0) + ((a.getD i 0) * (b.getD j 0))) + c) / 1000000000)) <| zE (oXo el47 (i + j)) <| zT (oSp sh135 (i + j) ((((o2.getD (i + j) 0) + ((a.getD i 0) * (b.getD j 0))) + c) % 1000000000)) <| zM <| zZ) ?_
      refine kx [(27, (vin (j + 1)))] [] (zE (oAd (j + 1)) <| zM <| zZ) ?_
      exact ⟨(j + 1, o2.set (i + j) ((o2.getD (i + j) 0 + a.getD i 0 * b.getD j 0 + c) % 1000000000), (o2.getD (i + j) 0 + a.getD i 0 * b.getD j 0 + c) / 1000000000), wk, (by obtain ⟨q1, q2⟩ := times_step (by omega) hdo2 hv2 rfl (val_take_succ b j); exact ⟨by simpa using hlen2, q1, by omega, by omega, zero_set (by omega) hz2, q2⟩), (by first | omega | (dsimp only; omega))⟩
    · replace h2 := of_decide_eq_false h2
      have hje : j = b.length := by omega
      rw [hje] at hv2
      refine pwp_exit <| kx [] [(0, some (bm enc_u32 (o2.set (i + b.length) c)))] (zM <| zM <| zM <| zE (oLm el47) <| zE (oAd (i + b.length)) <| zM <| zE (oCv un180 in135 c) <| zE (oXo el47 (i + b.length)) <| zT (oSp sh135 (i + b.length) c) <| zZ) ?_
      refine kx [(20, (vin (i + 1)))] [] (zE (oAd (i + 1)) <| zM <| zZ) ?_
      exact ⟨(i + 1, o2.set (i + b.length) c), wk, (by obtain ⟨q1, q2, q3, q4⟩ := times_row hdo2 (by omega) hlen2 hz2 hc hv2; exact ⟨q1, q2, by omega, q3, q4⟩), (by first | omega | (dsimp only; omega))⟩
  · replace h1 := of_decide_eq_false h1
    have hie : i = a.length := by omega
    rw [hie, List.take_length] at hv
    refine pwp_exit <| pwp_seq <| pwp_sim (publish (t := 5) (k := 0) (es := List.map enc_u32 out) rfl rfl (pub_cells _ _ (fun _ => rfl)) (map_len _ _ hlen) (pub_take _ _ (fun _ => rfl) hlen)) ?_
    refine kx [(4, (vl 135 1 enc_u32 (ofNat (val out))))] [] (zM <| zE (oCl (t_trim out (by assumption) (by omega))) <| zM <| zZ) ?_
    refine pwp_ret ⟨_, (.tmp (d := (.sl 135 1 (List.map enc_u32 (ofNat (val out))))) rfl .nil), ?_⟩
    rw [hv]; rfl
end Go.Proofs.YtihgdjljnaekmaaGreat
namespace Go.Proofs.YtihgdjljnaekmaaGreat
open Go.RowKit Go.Shelf
attribute [local go_sem] Oper.semAt_some
set_option maxRecDepth 100000 in
set_option maxHeartbeats 2000000 in
theorem back1 (N l Bs b off len cap : Nat) (u : Nat → Value) (hlen : (len : Int) ≤ 9223372036854775807) (J : Nat → World → Prop) (Jx : World → Prop)
    (hc : ∀ j W, J j W → W.cell? ⟨Bs, 0, none⟩ = some (.slice (some ⟨b, off, none⟩) len cap) ∧ ∀ i, i < len → W.cell? ⟨b, off + i, none⟩ = some (u i))
    (hY : ∀ j W, J j W → j < len → YieldAt Fence.wide N Tryz.prog l #[.int .i64 ((len : Int) - 1 - (j : Int)), u (len - 1 - j)] W fun e W' =>
      (e = .returned (.bool true) ∧ J (j + 1) W') ∨ (e = .returned (.bool false) ∧ Jx W'))
    (W : World) (h0 : J 0 W) :
    CallsIn Fence.wide (N + 1) Tryz.prog 182 #[.func (.yield l) #[] #[], .pointer (some ⟨Bs, 0, none⟩)] W fun e W' => (∃ v, e = .returned v) ∧ (J len W' ∨ Jx W') := by
  refine callsIn_of_wp Tryz.func182 rfl trivial ?_ rfl
  simp only [Tryz.ntmps182, List.size_toArray, List.length_cons, List.length_nil, Nat.reduceAdd, Nat.reduceSub, Array.replicate_succ, Array.replicate_zero, List.push_toArray, List.append_toArray, List.nil_append, List.cons_append]
  have hBs := (hc 0 W h0).1
  gi_wp2
  gi_loopw [3] (fun i wr => ∃ j : Nat, j ≤ len ∧ i = .int .i64 ((len : Int) - 1 - (j : Int)) ∧ J j wr)
    (fun i _ => (intOf i + 1).toNat)
  case atStart => exact ⟨0, Nat.zero_le _, by simp, h0⟩
  case round =>
    obtain ⟨j, hk, rfl, hJs⟩ := hrel
    have hBj := (hc j wr hJs).1
    by_cases hlt : j < len
    · have hcj := (hc j wr hJs).2 (len - 1 - j) (by omega)
      obtain ⟨fn, tmps, assign, body, hy, hR⟩ := hY j wr hJs hlt
      gi_wp2
      refine hR.mono ?_
      rintro e W3 (⟨rfl, hJ3⟩ | ⟨rfl, hJx3⟩)
      · gi_wp2
        go_roundw
        case rel => exact ⟨j + 1, by omega, by simp; omega, hJ3⟩
        case measure => simp [intOf]; omega
      · gi_wp2
        refine bodyPost_ret (results_none rfl _ _ _) rfl ?_
        exact ⟨⟨_, rfl⟩, .inr hJx3⟩
    · obtain rfl : j = len := by omega
      gi_wp2
      go_end0
      exact ⟨⟨_, rfl⟩, .inl hJs⟩
set_option maxRecDepth 100000 in
set_option maxHeartbeats 2000000 in
theorem back1_nil (N l Bs cap : Nat) (ao : Option Addr) (J : World → Prop) (W : World) (hBs : W.cell? ⟨Bs, 0, none⟩ = some (.slice ao 0 cap)) (h0 : J W) :
    CallsIn Fence.wide (N + 1) Tryz.prog 182 #[.func (.yield l) #[] #[], .pointer (some ⟨Bs, 0, none⟩)] W fun e W' => (∃ v, e = .returned v) ∧ J W' := by
  refine callsIn_of_wp Tryz.func182 rfl trivial ?_ rfl
  simp only [Tryz.ntmps182, List.size_toArray, List.length_cons, List.length_nil, Nat.reduceAdd, Nat.reduceSub, Array.replicate_succ, Array.replicate_zero, List.push_toArray, List.append_toArray, List.nil_append, List.cons_append]
  gi_wp2
  gi_loopw [3] (fun i wr => i = .int .i64 (-1) ∧ J wr) (fun _ _ => 0)
  case atStart => exact ⟨by simp, h0⟩
  case round =>
    obtain ⟨rfl, hJs⟩ := hrel
    gi_wp2
    go_end0
    exact ⟨⟨_, rfl⟩, hJs⟩
set_option maxHeartbeats 1000000 in
theorem back_in (a : Option Addr) (len cap : Nat) (w : World) :
    Calls Tryz.prog 158 #[.slice a len cap] w fun e w' => e = .returned (.func (.func 182) #[] #[.pointer (some ⟨w.heap.size, 0, none⟩)]) ∧ w' = w.alloc (.cells #[.slice a len cap] 47) := by
  refine (callsIn_wide (n := 1)).1 (callsIn_of_wp Tryz.func158 rfl trivial ?_ rfl)
  simp only [Tryz.ntmps158, List.size_toArray, List.length_cons, List.length_nil, Nat.reduceAdd, Nat.reduceSub, Array.replicate_succ, Array.replicate_zero, List.push_toArray, List.append_toArray, List.nil_append, List.cons_append]
  gi_wp2
  go_ret
  exact ⟨rfl, rfl⟩
theorem backs : Go.Fid.Backs Tryz.prog 158 182 47 := ⟨back_in, back1_nil, fun N l c b off len cap u hlen J Jx hc hY W h0 => back1 N l c b off len cap u hlen J Jx hc hY W h0, enters_of Tryz.func182 (by kernel_rfl) rfl⟩
end Go.Proofs.YtihgdjljnaekmaaGreat
namespace Go.Proofs.YtihgdjljnaekmaaGreat
open Go.Fid
set_option maxRecDepth 4000
set_option linter.unusedVariables false
set_option linter.unusedSimpArgs false
theorem cb146 : callB Tryz.prog 146 = true := by kernel_rfl
theorem cb147 : callB Tryz.prog 147 = true := by kernel_rfl
theorem cb158 : callB Tryz.prog 158 = true := by kernel_rfl
theorem cb171 : callB Tryz.prog 171 = true := by kernel_rfl
theorem cb172 : callB Tryz.prog 172 = true := by kernel_rfl
theorem cb173 : callB Tryz.prog 173 = true := by kernel_rfl
theorem cb194 : callB Tryz.prog 194 = true := by kernel_rfl
theorem cb195 : callB Tryz.prog 195 = true := by kernel_rfl
theorem cb200 : callB Tryz.prog 200 = true := by kernel_rfl
theorem pl49 : placesB Tryz.prog 49 = some [(0, 1), (1, 1)] := by kernel_rfl
theorem sh3 : shapeB Tryz.prog 3 = some (false, 1) := by kernel_rfl
theorem sh47 : shapeB Tryz.prog 47 = some (false, 1) := by kernel_rfl
theorem sh49 : shapeB Tryz.prog 49 = some (true, 2) := by kernel_rfl
theorem sh180 : shapeB Tryz.prog 180 = some (false, 1) := by kernel_rfl
theorem ze3 : zeroB Tryz.prog 3 = some [.int .i64 0] := by kernel_rfl
theorem ze49 : zeroB Tryz.prog 49 = some [.bool false, .slice none 0 0] := by kernel_rfl
theorem ze180 : zeroB Tryz.prog 180 = some [.int .u64 0] := by kernel_rfl
theorem zo3 : ZOk [.int .i64 0] [.val (.int .i64 0)] := by simp [ZOk, Value.oneCell']
theorem zo49 : ZOk [.bool false, .slice none 0 0] [.val (.bool false), .sl 135 1 []] := by simp [ZOk, Value.oneCell']
theorem zo180 : ZOk [.int .u64 0] [.val (.int .u64 0)] := by simp [ZOk, Value.oneCell']
theorem t_isnan_int (a : Int) : Takes Tryz.prog 194 [(.val (.int .i64 (a)))] (.val (.bool (false))) := by
  refine fn_intro Tryz.func194 rfl cb194 rfl ?_
  show PWp _ _ _ _ ⟨[(0, (vi a))], []⟩
  refine pwp_seq <| kx [] [] (zM <| zZ) ?_
  refine pwp_seq <| kx [(2, (vb (a != a)))] [] (zM <| zM <| zE oNe <| zM <| zZ) ?_
  refine pwp_ret ⟨_, (.tmp (d := (.val (.bool ((a != a))))) rfl .nil), ?_⟩
  simp [retD]
theorem t_cmp_int (a b : Int) : Takes Tryz.prog 171 [(.val (.int .i64 (a))), (.val (.int .i64 (b)))] (.val (.int .i64 ((cmpI a b)))) := by
  refine fn_intro Tryz.func171 rfl cb171 rfl ?_
  show PWp _ _ _ _ ⟨[(0, (vi a)), (1, (vi b))], []⟩
  refine pwp_seq <| kx [] [] (zM <| zZ) ?_
  refine pwp_seq <| kx [(5, (vb false))] [] (zM <| zE (oCl (t_isnan_int a)) <| zM <| zZ) ?_
  refine pwp_seq <| kx [(6, (vb false))] [] (zM <| zE (oCl (t_isnan_int b)) <| zM <| zZ) ?_
  refine pwp_seq <| pwp_seq <| kx [(11, (vb false))] [] (zM <| zZ) ?_
  refine pwp_cond (b := false) (by kernel_rfl) (fun h => by cases h) (fun _ => ?_)
  refine pwp_skip <| pwp_seq <| pwp_seq <| kx [(13, (vb false))] [] (zM <| zZ) ?_
  refine pwp_cond (b := false) (by kernel_rfl) (fun h => by cases h) (fun _ => ?_)
  refine pwp_skip <| pwp_seq <| pwp_seq <| kx [(16, (vb (decide (a < b))))] [] (zM <| zM <| zE oLt <| zZ) ?_
  refine pwp_cond (b := decide (a < b)) rfl (fun h1 => ?_) (fun h1 => ?_)
  · replace h1 := of_decide_eq_true h1
    refine pwp_seq <| kx [(4, (vi (-1)))] [] (zM <| zZ) ?_
    refine pwp_ret ⟨_, (.tmp (d := (.val (.int .i64 (-1)))) rfl .nil), ?_⟩
    rw [show cmpI a b = -1 from if_pos h1]; rfl
  · replace h1 := of_decide_eq_false h1
    refine pwp_skip <| pwp_seq <| pwp_seq <| kx [(19, (vb (decide (b < a))))] [] (zM <| zM <| zE oGt <| zZ) ?_
    refine pwp_cond (b := decide (b < a)) rfl (fun h2 => ?_) (fun h2 => ?_)
    · replace h2 := of_decide_eq_true h2
      refine pwp_seq <| kx [(4, (vin 1))] [] (zM <| zZ) ?_
      refine pwp_ret ⟨_, (.tmp (d := (.val (.int .i64 (1)))) rfl .nil), ?_⟩
      rw [cmpI_gt h2]; rfl
    · replace h2 := of_decide_eq_false h2
      refine pwp_skip <| pwp_seq <| kx [(4, (vin 0))] [] (zM <| zZ) ?_
      refine pwp_ret ⟨_, (.tmp (d := (.val (.int .i64 (0)))) rfl .nil), ?_⟩
      rw [cmpI_eq h1 h2]; rfl
theorem t_isnan_uint32 (a : Nat) : Takes Tryz.prog 200 [(.val (.int .u32 (((a : Nat) : Int))))] (.val (.bool (false))) := by
  refine fn_intro Tryz.func200 rfl cb200 rfl ?_
  show PWp _ _ _ _ ⟨[(0, (vwn a))], []⟩
  refine pwp_seq <| kx [] [] (zM <| zZ) ?_
  refine pwp_seq <| kx [(2, (vb (((a : Nat) : Int) != ((a : Nat) : Int))))] [] (zM <| zM <| zE oNe <| zM <| zZ) ?_
  refine pwp_ret ⟨_, (.tmp (d := (.val (.bool ((((a : Nat) : Int) != ((a : Nat) : Int)))))) rfl .nil), ?_⟩
  simp [retD]
theorem t_cmp_uint32 (a b : Nat) : Takes Tryz.prog 195 [(.val (.int .u32 (((a : Nat) : Int)))), (.val (.int .u32 (((b : Nat) : Int))))] (.val (.int .i64 ((cmpI ((a : Nat) : Int) ((b : Nat) : Int))))) := by
  refine fn_intro Tryz.func195 rfl cb195 rfl ?_
  show PWp _ _ _ _ ⟨[(0, (vwn a)), (1, (vwn b))], []⟩
  refine pwp_seq <| kx [] [] (zM <| zZ) ?_
  refine pwp_seq <| kx [(5, (vb false))] [] (zM <| zE (oCl (t_isnan_uint32 a)) <| zM <| zZ) ?_
  refine pwp_seq <| kx [(6, (vb false))] [] (zM <| zE (oCl (t_isnan_uint32 b)) <| zM <| zZ) ?_
  refine pwp_seq <| pwp_seq <| kx [(11, (vb false))] [] (zM <| zZ) ?_
  refine pwp_cond (b := false) (by kernel_rfl) (fun h => by cases h) (fun _ => ?_)
  refine pwp_skip <| pwp_seq <| pwp_seq <| kx [(13, (vb false))] [] (zM <| zZ) ?_
  refine pwp_cond (b := false) (by kernel_rfl) (fun h => by cases h) (fun _ => ?_)
  refine pwp_skip <| pwp_seq <| pwp_seq <| kx [(16, (vb (decide (((a : Nat) : Int) < ((b : Nat) : Int)))))] [] (zM <| zM <| zE oLt <| zZ) ?_
  refine pwp_cond rfl (fun h1 => ?_) (fun h1 => ?_)
  · replace h1 := of_decide_eq_true h1
    refine pwp_seq <| kx [(4, (vi (-1)))] [] (zM <| zZ) ?_
    refine pwp_ret ⟨_, (.tmp (d := (.val (.int .i64 (-1)))) rfl .nil), ?_⟩
    rw [show cmpI ((a : Nat) : Int) ((b : Nat) : Int) = -1 from if_pos h1]; rfl
  · replace h1 := of_decide_eq_false h1
    refine pwp_skip <| pwp_seq <| pwp_seq <| kx [(19, (vb (decide (((b : Nat) : Int) < ((a : Nat) : Int)))))] [] (zM <| zM <| zE oGt <| zZ) ?_
    refine pwp_cond rfl (fun h2 => ?_) (fun h2 => ?_)
    · replace h2 := of_decide_eq_true h2
      refine pwp_seq <| kx [(4, (vin 1))] [] (zM <| zZ) ?_
      refine pwp_ret ⟨_, (.tmp (d := (.val (.int .i64 (1)))) rfl .nil), ?_⟩
      rw [cmpI_gt h2]; rfl
    · replace h2 := of_decide_eq_false h2
      refine pwp_skip <| pwp_seq <| kx [(4, (vin 0))] [] (zM <| zZ) ?_
      refine pwp_ret ⟨_, (.tmp (d := (.val (.int .i64 (0)))) rfl .nil), ?_⟩
      rw [cmpI_eq h1 h2]; rfl
theorem t_made (neg : Bool) (l : List Nat) (hd : Dig l) (hb : l.length ≤ 17592186044416) : Takes Tryz.prog 146 [(.val (.bool (neg))), (.sl 135 1 (List.map enc_u32 l))] (encI (mkI neg (val l))) := by
  refine fn_intro Tryz.func146 rfl cb146 rfl ?_
  show PWp _ _ _ _ ⟨[(0, (vb neg)), (1, (vl 135 1 enc_u32 l))], []⟩
  refine pwp_seq <| kx [(4, (.ref 0 0))] [(0, some (bx (encI (RInt.mk false []))))] (zN (oAl 0 ze49 zo49) <| zZ) ?_
  refine pwp_seq <| kx [(1, (vl 135 1 enc_u32 (ofNat (val l))))] [] (zM <| zE (oCl (t_trim l (by assumption) (by omega))) <| zM <| zZ) ?_
  refine pwp_seq <| pwp_seq <| kx [(9, (vb ((((ofNat (val l)).length : Nat) : Int) == 0)))] [] (zM <| zE (oLm el47 (L := (ofNat (val l)))) <| zE oEq <| zZ) ?_
  refine pwp_cond rfl (fun h1 => ?_) (fun h1 => ?_)
  · replace h1 := eq_of_beq h1
    refine pwp_seq <| kx [] [(0, some (bx (encI (RInt.mk false []))))] (zE (oBd pl49 ze49 zo49) <| zT (oSt sh49) <| zZ) ?_
    refine pwp_ret ⟨_, (res_a (cs := (bx (encI (RInt.mk false [])))) (d := (encI (RInt.mk false []))) rfl rfl sh49 rfl rfl .nil), ?_⟩
    rw [mkI_zero h1]; rfl
  · replace h1 := ne_of_beq_false h1
    refine pwp_skip <| pwp_seq <| kx [] [(0, some (bx (encI (RInt.mk neg (ofNat (val l))))))] (zM <| zM <| zE (oBd pl49 ze49 zo49) <| zT (oSt sh49) <| zZ) ?_
    refine pwp_ret ⟨_, (res_a (cs := (bx (encI (RInt.mk neg (ofNat (val l)))))) (d := (encI (RInt.mk neg (ofNat (val l))))) rfl rfl sh49 rfl rfl .nil), ?_⟩
    rw [mkI_pos h1]; rfl
theorem t_word (l : List Nat) (hd : Dig l) : Takes Tryz.prog 173 [(.sl 135 1 (List.map enc_u32 l))] (.tup [(.val (.int .u64 ((((wordV l) : Nat) : Int)))), (.val (.bool ((wordB l))))]) := by
  refine fn_intro Tryz.func173 rfl cb173 rfl ?_
  show PWp _ _ _ _ ⟨[(0, (vl 135 1 enc_u32 l))], []⟩
  refine pwp_seq <| kx [(2, (vqn 0)), (3, (vb false))] [] (zM <| zM <| zZ) ?_
  refine pwp_seq <| pwp_seq <| kx [(9, (vb (decide (2 < ((l.length : Nat) : Int)))))] [] (zM <| zE (oLm el47) <| zE oGt <| zZ) ?_
  refine pwp_cond (b := decide (2 < ((l.length : Nat) : Int))) rfl (fun h1 => ?_) (fun h1 => ?_)
  · replace h1 := of_decide_eq_true h1
    refine pwp_seq <| kx [(2, (vqn 0)), (3, (vb false))] [] (zM <| zM <| zZ) ?_
    refine pwp_ret ⟨_, (.tmp (d := (.val (.int .u64 (0)))) rfl (.tmp (d := (.val (.bool (false)))) rfl .nil)), ?_⟩
    rw [show wordV l = 0 from if_neg (by omega), show wordB l = false from decide_eq_false (by omega)]; rfl
  · replace h1 := of_decide_eq_false h1
    have h2 : l.length ≤ 2 := by omega
    refine pwp_skip <| pwp_seq <| kx [(4, (.ref 0 0))] [(0, some (bx (.val (.int .u64 (0)))))] (zN (oAl 0 ze180 zo180) <| zT (oSt sh180) <| zZ) ?_
    refine pwp_seq <| pwp_backL backs cb158 rfl 5 enc_u32 l 0 (fun n => ⟨[(2, (vqn 0)), (3, (vb false)), (4, (.ref 0 0))], [(0, some (bx (.val (.int .u64 (((n : Nat) : Int))))))]⟩) (fun (j : Nat) n => n = val (l.drop (l.length - j))) 0 rfl rfl rfl rfl rfl rfl rfl rfl rfl rfl rfl rfl (fun _ => rfl) (fun _ => rfl) wk (by simp [val]) (by omega) ?_ ?_
    · rintro rl j n hj hn
      have hw := word_bound hd hj h2
      rw [← hn] at hw
      have hg := hd.getD (l.length - 1 - j)
      refine kx [(6, (vwn (l.getD (l.length - 1 - j) 0)))] [] (zM <| zZ) ?_
      refine pwp_block <| kx [] [(0, some (bx (.val (.int .u64 (((((n * 1000000000) + (l.getD (l.length - 1 - j) 0)) : Nat) : Int))))))] (zR (oL1 sh180) <| zE (oMl (n * 1000000000)) <| zM <| zE (oCv un135 in180 (l.getD (l.length - 1 - j) 0)) <| zE (oAd ((n * 1000000000) + (l.getD (l.length - 1 - j) 0))) <| zT (oSt sh180) <| zZ) ?_
      exact ⟨n * 1000000000 + l.getD (l.length - 1 - j) 0, wk, (by dsimp only; rw [val_drop l j hj, ← hn]; omega)⟩
    · rintro n hn
      refine pwp_seq <| kx [(2, (vqn n)), (3, (vb true))] [] (zR (oL1 sh180) <| zM <| zM <| zZ) ?_
      refine pwp_ret ⟨_, (.tmp (d := (.val (.int .u64 (((n : Nat) : Int))))) rfl (.tmp (d := (.val (.bool (true)))) rfl .nil)), ?_⟩
      rw [show wordV l = n by rw [hn, Nat.sub_self, List.drop_zero]; exact if_pos h2, show wordB l = true from decide_eq_true h2]; rfl
theorem t_compare (a b : List Nat) (ha : Cano a) (hb : Cano b) (hla : a.length ≤ 17592186044416) : Takes Tryz.prog 172 [(.sl 135 1 (List.map enc_u32 a)), (.sl 135 1 (List.map enc_u32 b))] (.val (.int .i64 ((cmpI ((val a : Nat) : Int) ((val b : Nat) : Int))))) := by
  refine fn_intro Tryz.func172 rfl cb172 rfl ?_
  show PWp _ _ _ _ ⟨[(0, (vl 135 1 enc_u32 a)), (1, (vl 135 1 enc_u32 b))], []⟩
  refine pwp_seq <| kx [(3, (.ref 0 0)), (4, (.ref 1 0))] [(0, some (bx (.sl 135 1 (List.map enc_u32 b)))), (1, some (bx (.val (.int .i64 (0)))))] (zN (oBx 0) <| zN (oAl 1 ze3 zo3) <| zZ) ?_
  refine pwp_seq <| pwp_seq <| kx [(11, (vb (((a.length : Nat) : Int) != ((b.length : Nat) : Int))))] [] (zM <| zE (oLm el47) <| zR (oL1 sh47) <| zE (oLm el47) <| zE oNe <| zZ) ?_
  refine pwp_cond rfl (fun h1 => ?_) (fun h1 => ?_)
  · replace h1 := bne_iff_ne.1 h1
    refine pwp_seq <| kx [] [(1, some (bx (.val (.int .i64 ((cmpI ((a.length : Nat) : Int) ((b.length : Nat) : Int)))))))] (zM <| zE (oLm el47) <| zR (oL1 sh47) <| zE (oLm el47) <| zE (oCl (t_cmp_int ((a.length : Nat) : Int) ((b.length : Nat) : Int))) <| zT (oSt sh3) <| zZ) ?_
    refine pwp_ret ⟨_, (res_1 (cs := (bx (.val (.int .i64 ((cmpI ((a.length : Nat) : Int) ((b.length : Nat) : Int))))))) (d := (.val (.int .i64 ((cmpI ((a.length : Nat) : Int) ((b.length : Nat) : Int)))))) rfl rfl sh3 rfl rfl .nil), ?_⟩
    rw [← cmpI_len ha hb h1]; rfl
  · replace h1 := bne_eq_false_iff_eq.1 h1
    have hl : a.length = b.length := by omega
    refine pwp_skip <| pwp_seq <| pwp_backL backs cb158 rfl 5 enc_u32 a 0 (fun _ => ⟨[(3, (.ref 0 0)), (4, (.ref 1 0))], [(0, some (bx (.sl 135 1 (List.map enc_u32 b)))), (1, some (bx (.val (.int .i64 (0)))))]⟩) (fun (j : Nat) _ => val (a.drop (a.length - j)) = val (b.drop (a.length - j))) () rfl rfl rfl rfl rfl rfl rfl rfl rfl rfl rfl rfl (fun _ => rfl) (fun _ => rfl) wk (by rw [Nat.sub_zero, List.drop_length, hl, List.drop_length]) (by omega) ?_ ?_
    · rintro rl j ⟨⟩ hj he
      refine pwp_seq <| kx [(5, (vin (a.length - 1 - j)))] [] (zM <| zZ) ?_
      refine kx [(6, (vwn (a.getD (a.length - 1 - j) 0)))] [] (zM <| zZ) ?_
      refine pwp_block <| pwp_seq <| kx [(26, (vb ((((a.getD (a.length - 1 - j) 0) : Nat) : Int) != (((b.getD (a.length - 1 - j) 0) : Nat) : Int))))] [] (zM <| zR (oL1 sh47) <| zM <| zE (oXl el47 (a.length - 1 - j) (0 : Nat)) <| zE (oC1 sh135) <| zE oNe <| zZ) ?_
      refine pwp_cond rfl (fun h2 => ?_) (fun h2 => ?_)
      · replace h2 := bne_iff_ne.1 h2
        refine pwp_seq <| kx [] [(1, some (bx (.val (.int .i64 ((cmpI (((a.getD (a.length - 1 - j) 0) : Nat) : Int) (((b.getD (a.length - 1 - j) 0) : Nat) : Int)))))))] (zM <| zR (oL1 sh47) <| zM <| zE (oXl el47 (a.length - 1 - j) (0 : Nat)) <| zE (oC1 sh135) <| zE (oCl (t_cmp_uint32 (a.getD (a.length - 1 - j) 0) (b.getD (a.length - 1 - j) 0))) <| zT (oSt sh3) <| zZ) ?_
        refine pwp_ret ⟨⟨[(4, (.ref 1 0))], [(1, some (bx (.val (.int .i64 ((cmpI (((a.getD (a.length - 1 - j) 0) : Nat) : Int) (((b.getD (a.length - 1 - j) 0) : Nat) : Int)))))))]⟩, wk, keys_of rfl, ⟨_, (res_1 (cs := (bx (.val (.int .i64 ((cmpI (((a.getD (a.length - 1 - j) 0) : Nat) : Int) (((b.getD (a.length - 1 - j) 0) : Nat) : Int))))))) (d := (.val (.int .i64 ((cmpI (((a.getD (a.length - 1 - j) 0) : Nat) : Int) (((b.getD (a.length - 1 - j) 0) : Nat) : Int)))))) rfl rfl sh3 rfl rfl .nil), ?_⟩⟩
        rw [← cmpI_top ha.1 hb.1 hl hj he h2]; rfl
      · replace h2 := bne_eq_false_iff_eq.1 h2
        refine pwp_skip ?_
        exact ⟨(), wk, (by dsimp only; have e1 := val_drop a j hj; have e2 := val_drop b j (by omega); rw [← hl] at e2; rw [e1, e2, he]; omega)⟩
    · rintro ⟨⟩ he
      refine pwp_seq <| kx [] [(1, some (bx (.val (.int .i64 (0)))))] (zT (oSt sh3) <| zZ) ?_
      refine pwp_ret ⟨_, (res_1 (cs := (bx (.val (.int .i64 (0))))) (d := (.val (.int .i64 (0)))) rfl rfl sh3 rfl rfl .nil), ?_⟩
      rw [cmpI_same (by rw [Nat.sub_self, List.drop_zero, List.drop_zero] at he; exact he)]; rfl
theorem t_split (n : Nat) (hn : n < 18446744073709551616) : Takes Tryz.prog 147 [(.val (.int .u64 (((n : Nat) : Int))))] (.sl 135 1 (List.map enc_u32 (ofNat n))) := by
  refine fn_intro Tryz.func147 rfl cb147 rfl ?_
  show PWp _ _ _ _ ⟨[(0, (vqn n))], []⟩
  refine pwp_seq <| kx [] [] (zE (oNl 135 1) <| zZ) ?_
  refine pwp_seq <| kx [(3, (.own 0 135 1 0))] [(0, some (bm enc_u32 []))] (zO 0 135 1 <| zZ) ?_
  refine pwp_seq <| pwp_block <| pwp_loop (α := Nat × List Nat) (fun (m, g) => ⟨[(0, (vqn m)), (3, (.own 0 135 1 g.length))], [(0, some (bm enc_u32 g))]⟩) (fun (m, g) => m ≤ n ∧ g ++ ofNat m = ofNat n) (fun (m, g) => m) (n, []) wk ⟨Nat.le_refl _, by rw [List.nil_append]⟩ ?_
  rintro ⟨m, g⟩ ⟨hm, hg⟩
  have hl := split_len hg hn
  refine pwp_seq <| pwp_seq <| kx [(5, (vb (decide (0 < ((m : Nat) : Int)))))] [] (zM <| zE oGt <| zZ) ?_
  refine pwp_cond (b := decide (0 < ((m : Nat) : Int))) rfl (fun h1 => ?_) (fun h1 => ?_)
  · replace h1 := of_decide_eq_true h1
    refine pwp_skip <| pwp_seq <| pwp_block <| kf [(3, (.own 0 135 1 ((g ++ [(m % 1000000000)]).length)))] [(0, some (bm enc_u32 (g ++ [(m % 1000000000)])))] (zM <| zM <| zE (oRe (m % 1000000000)) <| zE (oCv un180 in135 (m % 1000000000)) <| zE (oBs el47 ze135 zo135) <| zA enc_u32 g [(m % 1000000000)] rfl el47 ze135 by135 <| zM <| zF) ?_
    refine kx [(0, (vqn (m / 1000000000)))] [] (zM <| zE (oQu (m / 1000000000)) <| zM <| zZ) ?_
    exact ⟨(m / 1000000000, g ++ [m % 1000000000]), wk, ⟨by omega, split_step hg h1⟩, (by first | omega | (dsimp only; omega))⟩
  · replace h1 := of_decide_eq_false h1
    refine pwp_exit <| pwp_seq <| pwp_sim (publish (t := 3) (k := 0) (es := List.map enc_u32 g) rfl rfl (pub_cells _ _ (fun _ => rfl)) (map_len _ _ rfl) (pub_take _ _ (fun _ => rfl) rfl)) ?_
    refine kx [(2, (vl 135 1 enc_u32 g))] [] (zM <| zM <| zZ) ?_
    refine pwp_ret ⟨_, (.tmp (d := (.sl 135 1 (List.map enc_u32 g))) rfl .nil), ?_⟩
    rw [split_end hg h1]; rfl
end Go.Proofs.YtihgdjljnaekmaaGreat
