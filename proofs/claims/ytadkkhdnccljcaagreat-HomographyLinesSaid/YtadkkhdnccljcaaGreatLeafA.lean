/-
  Functions walked: each takes its data to what is said. Printed by a program of ours.
-/
import Derived.Test.YtadkkhdnccljcaaGreatFacts
import Derived.Test.YtadkkhdnccljcaaGreatDig
import Derived.Test.YtadkkhdnccljcaaGreatFid19
namespace Go.Proofs.YtadkkhdnccljcaaGreat
open Go.Fid
set_option maxRecDepth 4000
set_option linter.unusedVariables false
set_option linter.unusedSimpArgs false
theorem by138 : bytesB Tryz.prog 138 = some 4 := by kernel_rfl
theorem cb132 : callB Tryz.prog 132 = true := by kernel_rfl
theorem cb139 : callB Tryz.prog 139 = true := by kernel_rfl
theorem cb140 : callB Tryz.prog 140 = true := by kernel_rfl
theorem cb155 : callB Tryz.prog 155 = true := by kernel_rfl
theorem cb163 : callB Tryz.prog 163 = true := by kernel_rfl
theorem el28 : elemB Tryz.prog 28 = some (138, 1) := by kernel_rfl
theorem in138 : intB Tryz.prog 138 = some .u32 := by kernel_rfl
theorem in140 : intB Tryz.prog 140 = some .u64 := by kernel_rfl
theorem sh138 : shapeB Tryz.prog 138 = some (false, 1) := by kernel_rfl
theorem un138 : (Tryz.prog.underlying 138).isSome = true := by kernel_rfl
theorem un140 : (Tryz.prog.underlying 140).isSome = true := by kernel_rfl
theorem ze138 : zeroB Tryz.prog 138 = some [.int .u32 0] := by kernel_rfl
theorem zo138 : ZOk [.int .u32 0] [.val (.int .u32 0)] := by simp [ZOk, Value.oneCell']
theorem t_at (l : List Nat) (i : Nat) : Takes Tryz.prog 163 [(.sl 138 1 (List.map enc_u32 l)), (.val (.int .i64 (((i : Nat) : Int))))] (.val (.int .u32 ((((l.getD i 0) : Nat) : Int)))) := by
  refine fn_intro Tryz.func163 rfl cb163 rfl ?_
  show PWp _ _ _ _ ⟨[(0, (vl 138 1 enc_u32 l)), (1, (vin i))], []⟩
  refine pwp_seq <| kx [] [] (zM <| zZ) ?_
  refine pwp_seq <| pwp_seq <| kx [(8, (vb (decide (((i : Nat) : Int) < ((l.length : Nat) : Int)))))] [] (zM <| zM <| zE (oLm el28) <| zE oLt <| zZ) ?_
  refine pwp_cond rfl (fun h1 => ?_) (fun h1 => ?_)
  · replace h1 := of_decide_eq_true h1
    refine pwp_seq <| kx [(4, (vwn (l.getD i 0)))] [] (zM <| zM <| zE (oXl el28 i (0 : Nat)) <| zE (oC1 sh138) <| zM <| zZ) ?_
    refine pwp_ret ⟨_, (.tmp (d := (.val (.int .u32 ((((l.getD i 0) : Nat) : Int))))) rfl .nil), ?_⟩
    rfl
  · replace h1 := of_decide_eq_false h1
    refine pwp_skip <| pwp_seq <| kx [(4, (vwn 0))] [] (zM <| zZ) ?_
    refine pwp_ret ⟨_, (.tmp (d := (.val (.int .u32 (0)))) rfl .nil), ?_⟩
    rw [show l.getD i 0 = 0 from getD_out (by omega)]; rfl
theorem t_trim (l0 : List Nat) (hd : Dig l0) (hb : l0.length ≤ 17592186044416) : Takes Tryz.prog 155 [(.sl 138 1 (List.map enc_u32 l0))] (.sl 138 1 (List.map enc_u32 (ofNat (val l0)))) := by
  refine fn_intro Tryz.func155 rfl cb155 rfl ?_
  show PWp _ _ _ _ ⟨[(0, (vl 138 1 enc_u32 l0))], []⟩
  refine pwp_seq <| kx [] [] (zE (oNl 138 1) <| zZ) ?_
  refine pwp_seq <| pwp_block <| pwp_loop (α := List Nat) (fun l => ⟨[(0, (vl 138 1 enc_u32 l))], []⟩) (fun l => Dig l ∧ val l = val l0 ∧ l.length ≤ l0.length) (fun l => l.length) l0 wk ⟨hd, rfl, Nat.le_refl _⟩ ?_
  rintro l ⟨hl, hv, hle⟩
  refine pwp_seq <| pwp_seq <| kx [(14, (vb (decide (0 < ((l.length : Nat) : Int)) && ((((l.getD (l.length - 1) 0) : Nat) : Int) == 0))))] [] ?_ ?_
  · refine zM <| zE (oLm el28) <| zE oGt <| zE (oV (vb (decide (0 < ((l.length : Nat) : Int)))) (mv_ok (by kernel_rfl))) <| ?_
    rcases hb1 : (decide (0 < ((l.length : Nat) : Int))) with _ | _
    · replace hb1 := of_decide_eq_false hb1
      exact zK <| zK <| zK <| zK <| zK <| zK <| zK <| zE oPf <| zZ
    · replace hb1 := of_decide_eq_true hb1
      exact zM <| zM <| zE (oLm el28) <| zE (oSb (l.length - 1)) <| zE (oXl el28 (l.length - 1) (0 : Nat)) <| zE (oC1 sh138) <| zE oEq <| zE oPa <| zZ
  refine pwp_cond rfl (fun h2 => ?_) (fun h2 => ?_)
  · obtain ⟨hp, _⟩ := trim_cond h2
    refine pwp_skip <| pwp_block <| kx [(0, (vl 138 1 enc_u32 (List.take (l.length - 1) l)))] [] (zM <| zM <| zE (oLm el28) <| zE (oSb (l.length - 1)) <| zE (e_slc (l := 0) (h := (l.length - 1)) (kl := .i64) (kh := .i64) (es' := List.map enc_u32 (List.take (l.length - 1) l)) (by exact rfl) el28 (by exact rfl) (by exact rfl) (by exact rfl) (Nat.zero_le _) (by simp only [List.length_map]; omega) (by rw [List.drop_zero, List.map_take])) <| zM <| zZ) ?_
    exact ⟨(l.take (l.length - 1)), wk, (trim_step hl hv hle h2), (trim_less h2)⟩
  · refine pwp_exit <| pwp_seq <| kx [(2, (vl 138 1 enc_u32 l))] [] (zM <| zM <| zZ) ?_
    refine pwp_ret ⟨_, (.tmp (d := (.sl 138 1 (List.map enc_u32 l))) rfl .nil), ?_⟩
    rw [trim_end hl hv h2]; rfl
theorem t_plus (a b : List Nat) (hda : Dig a) (hdb : Dig b) (hla : a.length ≤ 8796093022208) (hlb : b.length ≤ 8796093022208) : Takes Tryz.prog 139 [(.sl 138 1 (List.map enc_u32 a)), (.sl 138 1 (List.map enc_u32 b))] (.sl 138 1 (List.map enc_u32 (ofNat (val a + val b)))) := by
  refine fn_intro Tryz.func139 rfl cb139 rfl ?_
  show PWp _ _ _ _ ⟨[(0, (vl 138 1 enc_u32 a)), (1, (vl 138 1 enc_u32 b))], []⟩
  refine pwp_seq <| kx [] [] (zE (oNl 138 1) <| zZ) ?_
  refine pwp_seq <| kx [(5, (.own 0 138 1 ((max a.length b.length) + 1)))] [(0, some (bm enc_u32 (List.replicate ((max a.length b.length) + 1) 0)))] (zM <| zE (oLm el28) <| zM <| zE (oLm el28) <| zE (oMx (max a.length b.length)) <| zE (oAd ((max a.length b.length) + 1)) <| zN (oMk 0 enc_u32 (0 : Nat) ((max a.length b.length) + 1) ((max a.length b.length) + 1) el28 ze138 zo138 by138) <| zM <| zZ) ?_
  refine pwp_seq <| kx [(6, (vwn 0))] [] (zM <| zZ) ?_
  refine pwp_seq <| pwp_seq <| kx [(17, (vin ((max a.length b.length) + 1))), (18, (vin 0))] [] (zM <| zE (oLo el28) <| zM <| zZ) ?_
  refine pwp_block <| pwp_loop (α := Nat × List Nat × Nat) (fun (i, out, c) => ⟨[(0, (vl 138 1 enc_u32 a)), (1, (vl 138 1 enc_u32 b)), (5, (.own 0 138 1 ((max a.length b.length) + 1))), (6, (vwn c)), (17, (vin ((max a.length b.length) + 1))), (18, (vin i))], [(0, some (bm enc_u32 out))]⟩) (fun (i, out, c) => out.length = max a.length b.length + 1 ∧ Dig out ∧ i ≤ max a.length b.length + 1 ∧ c ≤ 1 ∧ val (out.take i) + pw i * c = val (a.take i) + val (b.take i)) (fun (i, out, c) => max a.length b.length + 1 - i) (0, List.replicate (max a.length b.length + 1) 0, 0) wk ⟨by simp, dig_replicate _, Nat.zero_le _, Nat.zero_le _, by simp [val]⟩ ?_
  rintro ⟨i, out, c⟩ ⟨hlen, hdo, hi, hc, hv⟩
  have hai := hda.getD i
  have hbi := hdb.getD i
  refine pwp_seq <| kx [(19, (vb (decide (((i : Nat) : Int) < ((((max a.length b.length) + 1) : Nat) : Int)))))] [] (zE oLt <| zZ) ?_
  refine pwp_seq <| pwp_cond rfl (fun h1 => ?_) (fun h1 => ?_)
  · replace h1 := of_decide_eq_true h1
    refine pwp_skip <| pwp_seq <| pwp_block <| pwp_seq <| kx [(7, (vin i))] [] (zM <| zM <| zZ) ?_
    refine pwp_seq <| kx [(8, (vwn (((a.getD i 0) + (b.getD i 0)) + c)))] [] (zM <| zM <| zE (oCl (t_at a i)) <| zM <| zM <| zE (oCl (t_at b i)) <| zE (oAd ((a.getD i 0) + (b.getD i 0))) <| zM <| zE (oAd (((a.getD i 0) + (b.getD i 0)) + c)) <| zM <| zZ) ?_
    refine pwp_seq <| kx [(6, (vwn 0))] [] (zM <| zZ) ?_
    refine pwp_seq <| pwp_seq <| kx [(31, (vb (decide (1000000000 ≤ (((((a.getD i 0) + (b.getD i 0)) + c) : Nat) : Int)))))] [] (zM <| zE oGe <| zZ) ?_
    refine pwp_cond rfl (fun h2 => ?_) (fun h2 => ?_)
    · replace h2 := of_decide_eq_true h2
      refine kx [(6, (vwn 1)), (8, (vwn ((((a.getD i 0) + (b.getD i 0)) + c) - 1000000000)))] [] (zM <| zE (oSb ((((a.getD i 0) + (b.getD i 0)) + c) - 1000000000)) <| zM <| zM <| zZ) ?_
      refine kx [] [(0, some (bm enc_u32 (out.set i ((((a.getD i 0) + (b.getD i 0)) + c) - 1000000000))))] (zM <| zM <| zM <| zE (oXo el28 i) <| zT (oSp sh138 i ((((a.getD i 0) + (b.getD i 0)) + c) - 1000000000)) <| zZ) ?_
      refine kx [(18, (vin (i + 1)))] [] (zE (oAd (i + 1)) <| zM <| zZ) ?_
      exact ⟨(i + 1, out.set i (a.getD i 0 + b.getD i 0 + c - 1000000000), 1), wk, (by obtain ⟨q1, q2, q3⟩ := plus_step (s := a.getD i 0 + b.getD i 0 + c - 1000000000) (c' := 1) hlen hdo (by omega) hv (by omega) (by omega); exact ⟨q1, q2, by omega, by omega, q3⟩), (by first | omega | (dsimp only; omega))⟩
    · replace h2 := of_decide_eq_false h2
      refine pwp_skip <| kx [] [(0, some (bm enc_u32 (out.set i (((a.getD i 0) + (b.getD i 0)) + c))))] (zM <| zM <| zM <| zE (oXo el28 i) <| zT (oSp sh138 i (((a.getD i 0) + (b.getD i 0)) + c)) <| zZ) ?_
      refine kx [(18, (vin (i + 1)))] [] (zE (oAd (i + 1)) <| zM <| zZ) ?_
      exact ⟨(i + 1, out.set i (a.getD i 0 + b.getD i 0 + c), 0), wk, (by obtain ⟨q1, q2, q3⟩ := plus_step (s := a.getD i 0 + b.getD i 0 + c) (c' := 0) hlen hdo (by omega) hv (by omega) (by omega); exact ⟨q1, q2, by omega, by omega, q3⟩), (by first | omega | (dsimp only; omega))⟩
  · replace h1 := of_decide_eq_false h1
    have hie : i = max a.length b.length + 1 := by omega
    rw [hie] at hv
    refine pwp_exit <| pwp_seq <| pwp_sim (publish (t := 5) (k := 0) (es := List.map enc_u32 out) rfl rfl (pub_cells _ _ (fun _ => rfl)) (map_len _ _ hlen) (pub_take _ _ (fun _ => rfl) hlen)) ?_
    refine kx [(4, (vl 138 1 enc_u32 (ofNat (val out))))] [] (zM <| zE (oCl (t_trim out (by assumption) (by omega))) <| zM <| zZ) ?_
    refine pwp_ret ⟨_, (.tmp (d := (.sl 138 1 (List.map enc_u32 (ofNat (val out))))) rfl .nil), ?_⟩
    rw [plus_end hda hdb hlen hv]; rfl
theorem t_minus (a b : List Nat) (hda : Dig a) (hdb : Dig b) (hba : val b ≤ val a) (hla : a.length ≤ 8796093022208) : Takes Tryz.prog 140 [(.sl 138 1 (List.map enc_u32 a)), (.sl 138 1 (List.map enc_u32 b))] (.sl 138 1 (List.map enc_u32 (ofNat (val a - val b)))) := by
  refine fn_intro Tryz.func140 rfl cb140 rfl ?_
  show PWp _ _ _ _ ⟨[(0, (vl 138 1 enc_u32 a)), (1, (vl 138 1 enc_u32 b))], []⟩
  refine pwp_seq <| kx [] [] (zE (oNl 138 1) <| zZ) ?_
  refine pwp_seq <| kx [(5, (.own 0 138 1 a.length))] [(0, some (bm enc_u32 (List.replicate a.length 0)))] (zM <| zE (oLm el28) <| zN (oMk 0 enc_u32 (0 : Nat) a.length a.length el28 ze138 zo138 by138) <| zM <| zZ) ?_
  refine pwp_seq <| kx [(6, (vwn 0))] [] (zM <| zZ) ?_
  refine pwp_seq <| pwp_seq <| kx [(13, (vin a.length)), (14, (vin 0))] [] (zM <| zE (oLo el28) <| zM <| zZ) ?_
  refine pwp_block <| pwp_loop (α := Nat × List Nat × Nat) (fun (i, out, c) => ⟨[(0, (vl 138 1 enc_u32 a)), (1, (vl 138 1 enc_u32 b)), (5, (.own 0 138 1 a.length)), (6, (vwn c)), (13, (vin a.length)), (14, (vin i))], [(0, some (bm enc_u32 out))]⟩) (fun (i, out, c) => out.length = a.length ∧ Dig out ∧ i ≤ a.length ∧ c ≤ 1 ∧ val (out.take i) + val (b.take i) = val (a.take i) + pw i * c) (fun (i, out, c) => a.length - i) (0, List.replicate a.length 0, 0) wk ⟨by simp, dig_replicate _, Nat.zero_le _, Nat.zero_le _, by simp [val]⟩ ?_
  rintro ⟨i, out, c⟩ ⟨hlen, hdo, hi, hc, hv⟩
  have hai := hda.getD i
  have hbi := hdb.getD i
  refine pwp_seq <| kx [(15, (vb (decide (((i : Nat) : Int) < ((a.length : Nat) : Int)))))] [] (zE oLt <| zZ) ?_
  refine pwp_seq <| pwp_cond rfl (fun h1 => ?_) (fun h1 => ?_)
  · replace h1 := of_decide_eq_true h1
    refine pwp_skip <| pwp_seq <| pwp_block <| pwp_seq <| kx [(7, (vin i))] [] (zM <| zM <| zZ) ?_
    refine pwp_seq <| kx [(8, (vwn ((b.getD i 0) + c)))] [] (zM <| zM <| zE (oCl (t_at b i)) <| zM <| zE (oAd ((b.getD i 0) + c)) <| zM <| zZ) ?_
    refine pwp_seq <| kx [(6, (vwn 0))] [] (zM <| zZ) ?_
    refine pwp_seq <| kx [(27, (vb (decide ((((a.getD i 0) : Nat) : Int) < ((((b.getD i 0) + c) : Nat) : Int)))))] [] (zM <| zM <| zE (oXl el28 i (0 : Nat)) <| zE (oC1 sh138) <| zM <| zE oLt <| zZ) ?_
    refine pwp_cond rfl (fun h2 => ?_) (fun h2 => ?_)
    · replace h2 := of_decide_eq_true h2
      refine kx [(6, (vwn 1))] [(0, some (bm enc_u32 (out.set i (((a.getD i 0) + 1000000000) - ((b.getD i 0) + c)))))] (zM <| zM <| zM <| zM <| zE (oXl el28 i (0 : Nat)) <| zE (oC1 sh138) <| zE (oAd ((a.getD i 0) + 1000000000)) <| zM <| zE (oSb (((a.getD i 0) + 1000000000) - ((b.getD i 0) + c))) <| zE (oXo el28 i) <| zT (oSp sh138 i (((a.getD i 0) + 1000000000) - ((b.getD i 0) + c))) <| zM <| zZ) ?_
      refine kx [(14, (vin (i + 1)))] [] (zE (oAd (i + 1)) <| zM <| zZ) ?_
      exact ⟨(i + 1, out.set i (a.getD i 0 + 1000000000 - (b.getD i 0 + c)), 1), wk, (by obtain ⟨q1, q2, q3⟩ := minus_step (s := a.getD i 0 + 1000000000 - (b.getD i 0 + c)) (c' := 1) hlen hdo (by omega) hv (by omega) (by omega); exact ⟨q1, q2, by omega, by omega, q3⟩), (by first | omega | (dsimp only; omega))⟩
    · replace h2 := of_decide_eq_false h2
      refine kx [] [(0, some (bm enc_u32 (out.set i ((a.getD i 0) - ((b.getD i 0) + c)))))] (zM <| zM <| zM <| zM <| zE (oXl el28 i (0 : Nat)) <| zE (oC1 sh138) <| zM <| zE (oSb ((a.getD i 0) - ((b.getD i 0) + c))) <| zE (oXo el28 i) <| zT (oSp sh138 i ((a.getD i 0) - ((b.getD i 0) + c))) <| zZ) ?_
      refine kx [(14, (vin (i + 1)))] [] (zE (oAd (i + 1)) <| zM <| zZ) ?_
      exact ⟨(i + 1, out.set i (a.getD i 0 - (b.getD i 0 + c)), 0), wk, (by obtain ⟨q1, q2, q3⟩ := minus_step (s := a.getD i 0 - (b.getD i 0 + c)) (c' := 0) hlen hdo (by omega) hv (by omega) (by omega); exact ⟨q1, q2, by omega, by omega, q3⟩), (by first | omega | (dsimp only; omega))⟩
  · replace h1 := of_decide_eq_false h1
    have hie : i = a.length := by omega
    rw [hie] at hv
    refine pwp_exit <| pwp_seq <| pwp_sim (publish (t := 5) (k := 0) (es := List.map enc_u32 out) rfl rfl (pub_cells _ _ (fun _ => rfl)) (map_len _ _ hlen) (pub_take _ _ (fun _ => rfl) hlen)) ?_
    refine kx [(4, (vl 138 1 enc_u32 (ofNat (val out))))] [] (zM <| zE (oCl (t_trim out (by assumption) (by omega))) <| zM <| zZ) ?_
    refine pwp_ret ⟨_, (.tmp (d := (.sl 138 1 (List.map enc_u32 (ofNat (val out))))) rfl .nil), ?_⟩
    rw [minus_end hda hdb hdo hba hlen hv]; rfl
theorem t_times (a b : List Nat) (hda : Dig a) (hdb : Dig b) (hla : a.length ≤ 4398046511104) (hlb : b.length ≤ 4398046511104) : Takes Tryz.prog 132 [(.sl 138 1 (List.map enc_u32 a)), (.sl 138 1 (List.map enc_u32 b))] (.sl 138 1 (List.map enc_u32 (ofNat (val a * val b)))) := by
  refine fn_intro Tryz.func132 rfl cb132 rfl ?_
  show PWp _ _ _ _ ⟨[(0, (vl 138 1 enc_u32 a)), (1, (vl 138 1 enc_u32 b))], []⟩
  refine pwp_seq <| kx [] [] (zE (oNl 138 1) <| zZ) ?_
  refine pwp_seq <| kx [(5, (.own 0 138 1 (a.length + b.length)))] [(0, some (bm enc_u32 (List.replicate (a.length + b.length) 0)))] (zM <| zE (oLm el28) <| zM <| zE (oLm el28) <| zE (oAd (a.length + b.length)) <| zN (oMk 0 enc_u32 (0 : Nat) (a.length + b.length) (a.length + b.length) el28 ze138 zo138 by138) <| zM <| zZ) ?_
  refine pwp_seq <| pwp_seq <| kx [(18, (vl 138 1 enc_u32 a)), (19, (vin a.length)), (20, (vin 0))] [] (zM <| zE (oLm el28) <| zM <| zZ) ?_
  refine pwp_block <| pwp_loop (α := Nat × List Nat) (fun (i, out) => ⟨[(1, (vl 138 1 enc_u32 b)), (5, (.own 0 138 1 (a.length + b.length))), (18, (vl 138 1 enc_u32 a)), (19, (vin a.length)), (20, (vin i))], [(0, some (bm enc_u32 out))]⟩) (fun (i, out) => out.length = a.length + b.length ∧ Dig out ∧ i ≤ a.length ∧ (∀ k, i + b.length ≤ k → out.getD k 0 = 0) ∧ val out = val (a.take i) * val b) (fun (i, out) => a.length - i) (0, List.replicate (a.length + b.length) 0) wk ⟨by simp, dig_replicate _, Nat.zero_le _, fun k _ => getD_replicate _ k, by simp [val, val_replicate]⟩ ?_
  rintro ⟨i, out⟩ ⟨hlen, hdo, hi, hz, hv⟩
  have hai := hda.getD i
  refine pwp_seq <| kx [(21, (vb (decide (((i : Nat) : Int) < ((a.length : Nat) : Int)))))] [] (zE oLt <| zZ) ?_
  refine pwp_seq <| pwp_cond rfl (fun h1 => ?_) (fun h1 => ?_)
  · replace h1 := of_decide_eq_true h1
    refine pwp_skip <| pwp_seq <| pwp_block <| pwp_seq <| kx [(6, (vin i)), (7, (vwn (a.getD i 0)))] [] (zM <| zE (oXl el28 i (0 : Nat)) <| zE (oC1 sh138) <| zM <| zM <| zZ) ?_
    refine pwp_seq <| kx [(8, (vqn 0))] [] (zM <| zZ) ?_
    refine pwp_seq <| pwp_seq <| kx [(25, (vl 138 1 enc_u32 b)), (26, (vin b.length)), (27, (vin 0))] [] (zM <| zE (oLm el28) <| zM <| zZ) ?_
    refine pwp_block <| pwp_loop (α := Nat × List Nat × Nat) (fun (j, o2, c) => ⟨[(1, (vl 138 1 enc_u32 b)), (5, (.own 0 138 1 (a.length + b.length))), (6, (vin i)), (7, (vwn (a.getD i 0))), (8, (vqn c)), (18, (vl 138 1 enc_u32 a)), (19, (vin a.length)), (20, (vin i)), (25, (vl 138 1 enc_u32 b)), (26, (vin b.length)), (27, (vin j))], [(0, some (bm enc_u32 o2))]⟩) (fun (j, o2, c) => o2.length = a.length + b.length ∧ Dig o2 ∧ j ≤ b.length ∧ c < 1000000000 ∧ (∀ k, i + b.length ≤ k → o2.getD k 0 = 0) ∧ val o2 + pw (i + j) * c = val (a.take i) * val b + pw i * (a.getD i 0 * val (b.take j))) (fun (j, o2, c) => b.length - j) (0, out, 0) wk ⟨hlen, hdo, Nat.zero_le _, by decide, hz, by simp [val, hv]⟩ ?_
    rintro ⟨j, o2, c⟩ ⟨hlen2, hdo2, hj, hc, hz2, hv2⟩
    have hbj := hdb.getD j
    have hoj := hdo2.getD (i + j)
    have hpq : a.getD i 0 * b.getD j 0 ≤ 999999999 * 999999999 := Nat.mul_le_mul (by omega) (by omega)
    refine pwp_seq <| kx [(28, (vb (decide (((j : Nat) : Int) < ((b.length : Nat) : Int)))))] [] (zE oLt <| zZ) ?_
    refine pwp_seq <| pwp_cond rfl (fun h2 => ?_) (fun h2 => ?_)
    · replace h2 := of_decide_eq_true h2
      refine pwp_skip <| pwp_seq <| pwp_block <| pwp_seq <| kx [(9, (vin j)), (10, (vwn (b.getD j 0)))] [] (zM <| zE (oXl el28 j (0 : Nat)) <| zE (oC1 sh138) <| zM <| zM <| zZ) ?_
      refine pwp_seq <| kx [(11, (vqn (((o2.getD (i + j) 0) + ((a.getD i 0) * (b.getD j 0))) + c)))] [] (zM <| zM <| zM <| zE (oAd (i + j)) <| zE (oXo el28 (i + j)) <| zR (oLp sh138 (i + j) (0 : Nat)) <| zE (oCv un138 in140 (o2.getD (i + j) 0)) <| zM <| zE (oCv un138 in140 (a.getD i 0)) <| zM <| zE (oCv un138 in140 (b.getD j 0)) <| zE (oMl ((a.getD i 0) * (b.getD j 0))) <| zE (oAd ((o2.getD (i + j) 0) + ((a.getD i 0) * (b.getD j 0)))) <| zM <| zE (oAd (((o2.getD (i + j) 0) + ((a.getD i 0) * (b.getD j 0))) + c)) <| zM <| zZ) ?_
      refine kx [(8, (vqn ((((o2.getD (i + j) 0) + ((a.getD i 0) * (b.getD j 0))) + c) / 1000000000)))] [(0, some (bm enc_u32 (o2.set (i + j) ((((o2.getD (i + j) 0) + ((a.getD i 0) * (b.getD j 0))) + c) % 1000000000))))] (zM <| zM <| zM <| zE (oAd (i + j)) <| zM <| zE (oRe ((((o2.getD (i + j) 0) + ((a.getD i 0) * (b.getD j 0))) + c) % 1000000000)) <| zE (oCv un140 in138 ((((o2.getD (i + j) 0) + ((a.getD i 0) * (b.getD j 0))) + c) % 1000000000)) <| zM <| zE (oQu ((((o2.getD (i + j) 0) + ((a.getD i 0) * (b.getD j 0))) + c) / 1000000000)) <| zE (oXo el28 (i + j)) <| zT (oSp sh138 (i + j) ((((o2.getD (i + j) 0) + ((a.getD i 0) * (b.getD j 0))) + c) % 1000000000)) <| zM <| zZ) ?_
      refine kx [(27, (vin (j + 1)))] [] (zE (oAd (j + 1)) <| zM <| zZ) ?_
      exact ⟨(j + 1, o2.set (i + j) ((o2.getD (i + j) 0 + a.getD i 0 * b.getD j 0 + c) % 1000000000), (o2.getD (i + j) 0 + a.getD i 0 * b.getD j 0 + c) / 1000000000), wk, (by obtain ⟨q1, q2⟩ := times_step (by omega) hdo2 hv2 rfl (val_take_succ b j); exact ⟨by simpa using hlen2, q1, by omega, by omega, zero_set (by omega) hz2, q2⟩), (by first | omega | (dsimp only; omega))⟩
    · replace h2 := of_decide_eq_false h2
      have hje : j = b.length := by omega
      rw [hje] at hv2
      refine pwp_exit <| kx [] [(0, some (bm enc_u32 (o2.set (i + b.length) c)))] (zM <| zM <| zM <| zE (oLm el28) <| zE (oAd (i + b.length)) <| zM <| zE (oCv un140 in138 c) <| zE (oXo el28 (i + b.length)) <| zT (oSp sh138 (i + b.length) c) <| zZ) ?_
      refine kx [(20, (vin (i + 1)))] [] (zE (oAd (i + 1)) <| zM <| zZ) ?_
      exact ⟨(i + 1, o2.set (i + b.length) c), wk, (by obtain ⟨q1, q2, q3, q4⟩ := times_row hdo2 (by omega) hlen2 hz2 hc hv2; exact ⟨q1, q2, by omega, q3, q4⟩), (by first | omega | (dsimp only; omega))⟩
  · replace h1 := of_decide_eq_false h1
    have hie : i = a.length := by omega
    rw [hie, List.take_length] at hv
    refine pwp_exit <| pwp_seq <| pwp_sim (publish (t := 5) (k := 0) (es := List.map enc_u32 out) rfl rfl (pub_cells _ _ (fun _ => rfl)) (map_len _ _ hlen) (pub_take _ _ (fun _ => rfl) hlen)) ?_
    refine kx [(4, (vl 138 1 enc_u32 (ofNat (val out))))] [] (zM <| zE (oCl (t_trim out (by assumption) (by omega))) <| zM <| zZ) ?_
    refine pwp_ret ⟨_, (.tmp (d := (.sl 138 1 (List.map enc_u32 (ofNat (val out))))) rfl .nil), ?_⟩
    rw [hv]; rfl
end Go.Proofs.YtadkkhdnccljcaaGreat
