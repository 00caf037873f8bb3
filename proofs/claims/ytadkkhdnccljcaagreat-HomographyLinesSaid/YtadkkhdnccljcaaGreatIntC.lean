/-
  Functions walked: each takes its data to what is said. Printed by a program of ours.
-/
import Derived.Test.YtadkkhdnccljcaaGreatIntB
import Derived.Test.YtadkkhdnccljcaaGreatTrim
namespace Go.Proofs.YtadkkhdnccljcaaGreat
open Go.Fid
set_option maxRecDepth 4000
set_option linter.unusedVariables false
set_option linter.unusedSimpArgs false
theorem cb161 : callB Tryz.prog 161 = true := by kernel_rfl
theorem ze28 : zeroB Tryz.prog 28 = some [.slice none 0 0] := by kernel_rfl
theorem zo28 : ZOk [.slice none 0 0] [.sl 138 1 []] := by simp [ZOk, Value.oneCell']
theorem t_short (a : List Nat) (d : Nat) (hda : Dig a) (hd0 : 0 < d) (hd1 : d ≤ 1000000000) (hla : a.length ≤ 17592186044416) : Takes Tryz.prog 161 [(.sl 138 1 (List.map enc_u32 a)), (.val (.int .u32 (((d : Nat) : Int))))] (.tup [(.sl 138 1 (List.map enc_u32 (ofNat (val a / d)))), (.val (.int .u32 ((((val a % d) : Nat) : Int))))]) := by
  refine fn_intro Tryz.func161 rfl cb161 rfl ?_
  show PWp _ _ _ _ ⟨[(0, (vl 138 1 enc_u32 a)), (1, (vwn d))], []⟩
  refine pwp_seq <| kx [(3, (.ref 0 0)), (4, (.ref 1 0)), (5, (vwn 0))] [(0, some (bx (.val (.int .u32 (((d : Nat) : Int)))))), (1, some (bx (.sl 138 1 (List.map enc_u32 []))))] (zN (oBx 0) <| zN (oAl 1 ze28 zo28) <| zM <| zZ) ?_
  refine pwp_seq <| kx [] [(1, some [(.own 2 138 1 a.length)]), (2, some (bm enc_u32 (List.replicate a.length 0)))] (zM <| zE (oLm el28) <| zN (oMk 2 enc_u32 (0 : Nat) a.length a.length el28 ze138 zo138 by138) <| zT (oSo sh28) <| zZ) ?_
  refine pwp_seq <| kx [(6, (.ref 3 0))] [(3, some (bx (.val (.int .u64 (0)))))] (zH (oAl 3 ze140 zo140) <| zT (oSt sh140) <| zZ) ?_
  refine pwp_seq <| pwp_backL backs cb166 rfl 7 enc_u32 a 0 (fun (q, rest) => ⟨[(3, (.ref 0 0)), (4, (.ref 1 0)), (5, (vwn 0)), (6, (.ref 3 0))], [(0, some (bx (.val (.int .u32 (((d : Nat) : Int)))))), (1, some [(.own 2 138 1 a.length)]), (2, some (bm enc_u32 q)), (3, some (bx (.val (.int .u64 (((rest : Nat) : Int))))))]⟩) (fun (j : Nat) (q, rest) => q.length = a.length ∧ Dig q ∧ rest < d ∧ val (a.drop (a.length - j)) = val (q.drop (a.length - j)) * d + rest) (List.replicate a.length 0, 0) rfl rfl rfl rfl rfl rfl rfl rfl rfl rfl rfl rfl (fun _ => rfl) (fun _ => rfl) wk ⟨by simp, dig_replicate _, hd0, by simp [val, val_replicate]⟩ (by omega) ?_ ?_
  · rintro rl j ⟨q, rest⟩ hj ⟨hlen, hdq, hr, hv⟩
    have hg := hda.getD (a.length - 1 - j)
    obtain ⟨hb1, hb2⟩ := short_bound hr hd1 hg
    refine pwp_seq <| kx [(7, (vin (a.length - 1 - j)))] [] (zM <| zZ) ?_
    refine kx [(8, (vwn (a.getD (a.length - 1 - j) 0)))] [] (zM <| zZ) ?_
    refine pwp_block <| pwp_seq <| kx [(9, (vqn ((rest * 1000000000) + (a.getD (a.length - 1 - j) 0))))] [] (zR (oL1 sh140) <| zE (oMl (rest * 1000000000)) <| zM <| zE (oCv un138 in140 (a.getD (a.length - 1 - j) 0)) <| zE (oAd ((rest * 1000000000) + (a.getD (a.length - 1 - j) 0))) <| zM <| zZ) ?_
    refine kd [] [(2, some (bm enc_u32 (q.set (a.length - 1 - j) (((rest * 1000000000) + (a.getD (a.length - 1 - j) 0)) / d)))), (3, some (bx (.val (.int .u64 ((((((rest * 1000000000) + (a.getD (a.length - 1 - j) 0)) % d) : Nat) : Int))))))] mo (wR (oL1 sh28) <| wM <| wM <| wR (oL1 sh138) <| wE (oCv un138 in140 d) <| wE (oQu (((rest * 1000000000) + (a.getD (a.length - 1 - j) 0)) / d)) <| wE (oCv un140 in138 (((rest * 1000000000) + (a.getD (a.length - 1 - j) 0)) / d)) <| wM <| wR (oL1 sh138) <| wE (oCv un138 in140 d) <| wE (oRe (((rest * 1000000000) + (a.getD (a.length - 1 - j) 0)) % d)) <| wE (oXo el28 (a.length - 1 - j)) <| wT (oSp sh138 (a.length - 1 - j) (((rest * 1000000000) + (a.getD (a.length - 1 - j) 0)) / d)) <| wT (oSt sh140) <| wZ) ?_
    exact ⟨(q.set (a.length - 1 - j) ((rest * 1000000000 + a.getD (a.length - 1 - j) 0) / d), (rest * 1000000000 + a.getD (a.length - 1 - j) 0) % d), wk, ⟨by simpa using hlen, hdq.set _ hb2, Nat.mod_lt _ hd0, short_step hj hlen hv rfl⟩⟩
  · rintro ⟨q, rest⟩ ⟨hlen, hdq, hr, hv⟩
    obtain ⟨e1, e2⟩ := short_end hv hr
    refine pwp_seq <| pwp_sim (publishB (j := 1) (k := 2) (es := List.map enc_u32 q) rfl rfl rfl (pub_cells _ _ (fun _ => rfl)) (map_len _ _ hlen) (pub_take _ _ (fun _ => rfl) hlen)) ?_
    refine kd [(5, (vwn rest))] [(1, some (bx (.sl 138 1 (List.map enc_u32 (ofNat (val q))))))] mo (wR (oL1 sh28) <| wE (oCl (t_trim q (by assumption) (by omega))) <| wR (oL1 sh140) <| wE (oCv un140 in138 rest) <| wT (oSt sh28) <| wM <| wZ) ?_
    refine pwp_ret ⟨_, (res_1 (cs := (bx (.sl 138 1 (List.map enc_u32 (ofNat (val q)))))) (d := (.sl 138 1 (List.map enc_u32 (ofNat (val q))))) rfl rfl sh28 rfl rfl (.tmp (d := (.val (.int .u32 (((rest : Nat) : Int))))) rfl .nil)), ?_⟩
    rw [← e1, ← e2]; rfl
theorem o_times (a b : List Nat) (hda : Dig a) (hdb : Dig b) (hla : a.length ≤ 4398046511104) (hlb : b.length ≤ 4398046511104) (h0 : 0 < val a * val b) : TakesO Tryz.prog 132 [(.sl 138 1 (List.map enc_u32 a)), (.sl 138 1 (List.map enc_u32 b))] 138 1 (ofNat (val a * val b)).length (List.map enc_u32 (ofNat (val a * val b))) := by
  refine fn_introO Tryz.func132 rfl cb132 rfl (ofNat_len_pos h0) ?_
  show PWp _ _ _ _ ⟨[(0, (vl 138 1 enc_u32 a)), (1, (vl 138 1 enc_u32 b))], []⟩
  refine pwp_seq <| kx [] [] (zE (oNl 138 1) <| zZ) ?_
  refine pwp_seq <| kx [(5, (.own 0 138 1 (a.length + b.length)))] [(0, some (bm enc_u32 (List.replicate (a.length + b.length) 0)))] (zM <| zE (oLm el28) <| zM <| zE (oLm el28) <| zE (oAd (a.length + b.length)) <| zN (oMk 0 enc_u32 (0 : Nat) (a.length + b.length) (a.length + b.length) el28 ze138 zo138 by138) <| zM <| zZ) ?_
  refine pwp_seq <| pwp_seq <| kx [(18, (vl 138 1 enc_u32 a)), (19, (vin a.length)), (20, (vin 0))] [] (zM <| zE (oLm el28) <| zM <| zZ) ?_
  refine pwp_block <| pwp_loop (α := Nat × List Nat) (fun (i, out) => ⟨[(1, (vl 138 1 enc_u32 b)), (5, (.own 0 138 1 (a.length + b.length))), (18, (vl 138 1 enc_u32 a)), (19, (vin a.length)), (20, (vin i))], [(0, some (bm enc_u32 out))]⟩) (fun (i, out) => out.length = a.length + b.length ∧ Dig out ∧ i ≤ a.length ∧ (∀ k, i + b.length ≤ k → out.getD k 0 = 0) ∧ val out = val (a.take i) * val b) (fun (i, out) => a.length - i) (0, List.replicate (a.length + b.length) 0) wk ⟨by simp, dig_replicate _, Nat.zero_le _, fun k _ => getD_replicate _ k, by simp [val, val_replicate]⟩ ?_
  rintro ⟨i, out⟩ ⟨hlen, hdo, hi, hz, hv⟩
  have hai := hda.getD i
  refine pwp_seq <| kx [(21, (vb (decide (((i : Nat) : Int) < ((a.length : Nat) : Int)))))] [] (zE oLt <| zZ) ?_
  refine pwp_seq <| pwp_cond rfl (fun h1 => ?_) (fun h1 => ?_)
  · replace h1 := of_decide_eq_true h1
    refine pwp_skip <| pwp_seq <| pwp_block <| pwp_seq <| kx [(6, (vin i)), (7, (vwn (a.getD i 0)))] [] (zM <| zE (oXl el28 i (0 : Nat)) <| zE (oC1 sh138) <| zM <| zM <| zZ) ?_
    refine pwp_seq <| kx [(8, (vqn 0))] [] (zM <| zZ) ?_
    refine pwp_seq <| pwp_seq <| kx [(25, (vl 138 1 enc_u32 b)), (26, (vin b.length)), (27, (vin 0))] [] (zM <| zE (oLm el28) <| zM <| zZ) ?_
    refine pwp_block <| pwp_loop (α := Nat × List Nat × Nat) (fun (j, o2, c) => ⟨[(1, (vl 138 1 enc_u32 b)), (5, (.own 0 138 1 (a.length + b.length))), (6, (vin i)), (7, (vwn (a.getD i 0))), (8, (vqn c)), (18, (vl 138 1 enc_u32 a)), (19, (vin a.length)), (20, (vin i)), (25, (vl 138 1 enc_u32 b)), (26, (vin b.length)), (27, (vin j))], [(0, some (bm enc_u32 o2))]⟩) (fun (j, o2, c) => o2.length = a.length + b.length ∧ Dig o2 ∧ j ≤ b.length ∧ c < 1000000000 ∧ (∀ k, i + b.length ≤ k → o2.getD k 0 = 0) ∧ val o2 + pw (i + j) * c = val (a.take i) * val b + pw i * (a.getD i 0 * val (b.take j))) (fun (j, o2, c) => b.length - j) (0, out, 0) wk ⟨hlen, hdo, Nat.zero_le _, by decide, hz, by simp [val, hv]⟩ ?_
    rintro ⟨j, o2, c⟩ ⟨hlen2, hdo2, hj, hc, hz2, hv2⟩
    have hbj := hdb.getD j
    have hoj := hdo2.getD (i + j)
    have hpq : a.getD i 0 * b.getD j 0 ≤ 999999999 * 999999999 := Nat.mul_le_mul (by omega) (by omega)
    refine pwp_seq <| kx [(28, (vb (decide (((j : Nat) : Int) < ((b.length : Nat) : Int)))))] [] (zE oLt <| zZ) ?_
    refine pwp_seq <| pwp_cond rfl (fun h2 => ?_) (fun h2 => ?_)
    · replace h2 := of_decide_eq_true h2
      refine pwp_skip <| pwp_seq <| pwp_block <| pwp_seq <| kx [(9, (vin j)), (10, (vwn (b.getD j 0)))] [] (zM <| zE (oXl el28 j (0 : Nat)) <| zE (oC1 sh138) <| zM <| zM <| zZ) ?_
      refine pwp_seq <| kx [(11, (vqn (((o2.getD (i + j) 0) + ((a.getD i 0) * (b.getD j 0))) + c)))] [] (zM <| zM <| zM <| zE (oAd (i + j)) <| zE (oXo el28 (i + j)) <| zR (oLp sh138 (i + j) (0 : Nat)) <| zE (oCv un138 in140 (o2.getD (i + j) 0)) <| zM <| zE (oCv un138 in140 (a.getD i 0)) <| zM <| zE (oCv un138 in140 (b.getD j 0)) <| zE (oMl ((a.getD i 0) * (b.getD j 0))) <| zE (oAd ((o2.getD (i + j) 0) + ((a.getD i 0) * (b.getD j 0)))) <| zM <| zE (oAd (((o2.getD (i + j) 0) + ((a.getD i 0) * (b.getD j 0))) + c)) <| zM <| zZ) ?_
      refine kx [(8, (vqn ((((o2.getD (i + j) 0) + ((a.getD i 0) * (b.getD j 0))) + c) / 1000000000)))] [(0, some (bm enc_u32 (o2.set (i + j) ((((o2.getD (i + j) 0) + ((a.getD i 0) * (b.getD j 0))) + c) % 1000000000))))] (zM <| zM <| zM <| zE (oAd (i + j)) <| zM <| zE (oRe ((((o2.getD (i + j) 0) + ((a.getD i 0) * (b.getD j 0))) + c) % 1000000000)) <| zE (oCv un140 in138 ((((o2.getD (i + j) 0) + ((a.getD i 0) * (b.getD j 0))) + c) % 1000000000)) <| zM <| zE (oQu ((((o2.getD (i + j) 0) + ((a.getD i 0) * (b.getD j 0))) + c) / 1000000000)) <| zE (oXo el28 (i + j)) <| zT (oSp sh138 (i + j) ((((o2.getD (i + j) 0) + ((a.getD i 0) * (b.getD j 0))) + c) % 1000000000)) <| zM <| zZ) ?_
      refine kx [(27, (vin (j + 1)))] [] (zE (oAd (j + 1)) <| zM <| zZ) ?_
      exact ⟨(j + 1, o2.set (i + j) ((o2.getD (i + j) 0 + a.getD i 0 * b.getD j 0 + c) % 1000000000), (o2.getD (i + j) 0 + a.getD i 0 * b.getD j 0 + c) / 1000000000), wk, (by obtain ⟨q1, q2⟩ := times_step (by omega) hdo2 hv2 rfl (val_take_succ b j); exact ⟨by simpa using hlen2, q1, by omega, by omega, zero_set (by omega) hz2, q2⟩), (by first | omega | (dsimp only; omega))⟩
    · replace h2 := of_decide_eq_false h2
      have hje : j = b.length := by omega
      rw [hje] at hv2
      refine pwp_exit <| kx [] [(0, some (bm enc_u32 (o2.set (i + b.length) c)))] (zM <| zM <| zM <| zE (oLm el28) <| zE (oAd (i + b.length)) <| zM <| zE (oCv un140 in138 c) <| zE (oXo el28 (i + b.length)) <| zT (oSp sh138 (i + b.length) c) <| zZ) ?_
      refine kx [(20, (vin (i + 1)))] [] (zE (oAd (i + 1)) <| zM <| zZ) ?_
      exact ⟨(i + 1, o2.set (i + b.length) c), wk, (by obtain ⟨q1, q2, q3, q4⟩ := times_row hdo2 (by omega) hlen2 hz2 hc hv2; exact ⟨q1, q2, by omega, q3, q4⟩), (by first | omega | (dsimp only; omega))⟩
  · replace h1 := of_decide_eq_false h1
    have hie : i = a.length := by omega
    rw [hie, List.take_length] at hv
    refine pwp_exit <| pwp_seq <| kx [(4, (.own 0 138 1 ((ofNat (val out)).length)))] [] (zM <| zR ⟨_, e_trimO out (by exact rfl) (by exact rfl) hlen hdo (by omega), by kernel_rfl⟩ <| zM <| zZ) ?_
    rw [← hv]
    refine pwp_ret ⟨4, 0, rfl, rfl, (bm enc_u32 out), rfl, ?_⟩
    exact own_prefix _ (trim_take hdo)
end Go.Proofs.YtadkkhdnccljcaaGreat
