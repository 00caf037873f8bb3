/- Part 23 of a proof: rules, plain facts, and functions walked. -/
import Derived.Test.YtleidgohjckmlaaGreatM22
namespace Go.Proofs.YtleidgohjckmlaaGreat
open Go.Fid
set_option maxRecDepth 4000
set_option linter.unusedVariables false
set_option linter.unusedSimpArgs false
theorem cb113 : callB Tryz.prog 113 = true := by kernel_rfl
theorem ze47 : zeroB Tryz.prog 47 = some [.slice none 0 0] := by kernel_rfl
theorem zo47 : ZOk [.slice none 0 0] [.sl 105 1 []] := by simp [ZOk, Value.oneCell']
theorem t_short (a : List Nat) (d : Nat) (hda : Dig a) (hd0 : 0 < d) (hd1 : d ≤ 1000000000) (hla : a.length ≤ 17592186044416) : Takes Tryz.prog 113 [(.sl 105 1 (List.map enc_u32 a)), (.val (.int .u32 (((d : Nat) : Int))))] (.tup [(.sl 105 1 (List.map enc_u32 (ofNat (val a / d)))), (.val (.int .u32 ((((val a % d) : Nat) : Int))))]) := by
  refine fn_intro Tryz.func113 rfl cb113 rfl ?_
  show PWp _ _ _ _ ⟨[(0, (vl 105 1 enc_u32 a)), (1, (vwn d))], []⟩
  refine pwp_seq <| kx [(3, (.ref 0 0)), (4, (.ref 1 0)), (5, (vwn 0))] [(0, some (bx (.val (.int .u32 (((d : Nat) : Int)))))), (1, some (bx (.sl 105 1 (List.map enc_u32 []))))] (zN (oBx 0) <| zN (oAl 1 ze47 zo47) <| zM <| zZ) ?_
  refine pwp_seq <| kx [] [(1, some [(.own 2 105 1 a.length)]), (2, some (bm enc_u32 (List.replicate a.length 0)))] (zM <| zE (oLm el47) <| zN (oMk 2 enc_u32 (0 : Nat) a.length a.length el47 ze105 zo105 by105) <| zT (oSo sh47) <| zZ) ?_
  refine pwp_seq <| kx [(6, (.ref 3 0))] [(3, some (bx (.val (.int .u64 (0)))))] (zH (oAl 3 ze91 zo91) <| zT (oSt sh91) <| zZ) ?_
  refine pwp_seq <| pwp_backL backs cb111 rfl 7 enc_u32 a 0 (fun (q, rest) => ⟨[(3, (.ref 0 0)), (4, (.ref 1 0)), (5, (vwn 0)), (6, (.ref 3 0))], [(0, some (bx (.val (.int .u32 (((d : Nat) : Int)))))), (1, some [(.own 2 105 1 a.length)]), (2, some (bm enc_u32 q)), (3, some (bx (.val (.int .u64 (((rest : Nat) : Int))))))]⟩) (fun (j : Nat) (q, rest) => q.length = a.length ∧ Dig q ∧ rest < d ∧ val (a.drop (a.length - j)) = val (q.drop (a.length - j)) * d + rest) (List.replicate a.length 0, 0) rfl rfl rfl rfl rfl rfl rfl rfl rfl rfl rfl rfl (fun _ => rfl) (fun _ => rfl) wk ⟨by simp, dig_replicate _, hd0, by simp [val, val_replicate]⟩ (by omega) ?_ ?_
  · rintro rl j ⟨q, rest⟩ hj ⟨hlen, hdq, hr, hv⟩
    have hg := hda.getD (a.length - 1 - j)
    obtain ⟨hb1, hb2⟩ := short_bound hr hd1 hg
    refine pwp_seq <| kx [(7, (vin (a.length - 1 - j)))] [] (zM <| zZ) ?_
    refine kx [(8, (vwn (a.getD (a.length - 1 - j) 0)))] [] (zM <| zZ) ?_
    refine pwp_block <| pwp_seq <| kx [(9, (vqn ((rest * 1000000000) + (a.getD (a.length - 1 - j) 0))))] [] (zR (oL1 sh91) <| zE (oMl (rest * 1000000000)) <| zM <| zE (oCv un105 in91 (a.getD (a.length - 1 - j) 0)) <| zE (oAd ((rest * 1000000000) + (a.getD (a.length - 1 - j) 0))) <| zM <| zZ) ?_
    refine kd [] [(2, some (bm enc_u32 (q.set (a.length - 1 - j) (((rest * 1000000000) + (a.getD (a.length - 1 - j) 0)) / d)))), (3, some (bx (.val (.int .u64 ((((((rest * 1000000000) + (a.getD (a.length - 1 - j) 0)) % d) : Nat) : Int))))))] mo (wR (oL1 sh47) <| wM <| wM <| wR (oL1 sh105) <| wE (oCv un105 in91 d) <| wE (oQu (((rest * 1000000000) + (a.getD (a.length - 1 - j) 0)) / d)) <| wE (oCv un91 in105 (((rest * 1000000000) + (a.getD (a.length - 1 - j) 0)) / d)) <| wM <| wR (oL1 sh105) <| wE (oCv un105 in91 d) <| wE (oRe (((rest * 1000000000) + (a.getD (a.length - 1 - j) 0)) % d)) <| wE (oXo el47 (a.length - 1 - j)) <| wT (oSp sh105 (a.length - 1 - j) (((rest * 1000000000) + (a.getD (a.length - 1 - j) 0)) / d)) <| wT (oSt sh91) <| wZ) ?_
    exact ⟨(q.set (a.length - 1 - j) ((rest * 1000000000 + a.getD (a.length - 1 - j) 0) / d), (rest * 1000000000 + a.getD (a.length - 1 - j) 0) % d), wk, ⟨by simpa using hlen, hdq.set _ hb2, Nat.mod_lt _ hd0, short_step hj hlen hv rfl⟩⟩
  · rintro ⟨q, rest⟩ ⟨hlen, hdq, hr, hv⟩
    obtain ⟨e1, e2⟩ := short_end hv hr
    refine pwp_seq <| pwp_sim (publishB (j := 1) (k := 2) (es := List.map enc_u32 q) rfl rfl rfl (pub_cells _ _ (fun _ => rfl)) (map_len _ _ hlen) (pub_take _ _ (fun _ => rfl) hlen)) ?_
    refine kd [(5, (vwn rest))] [(1, some (bx (.sl 105 1 (List.map enc_u32 (ofNat (val q))))))] mo (wR (oL1 sh47) <| wE (oCl (t_trim q (by assumption) (by omega))) <| wR (oL1 sh91) <| wE (oCv un91 in105 rest) <| wT (oSt sh47) <| wM <| wZ) ?_
    refine pwp_ret ⟨_, (res_1 (cs := (bx (.sl 105 1 (List.map enc_u32 (ofNat (val q)))))) (d := (.sl 105 1 (List.map enc_u32 (ofNat (val q))))) rfl rfl sh47 rfl rfl (.tmp (d := (.val (.int .u32 (((rest : Nat) : Int))))) rfl .nil)), ?_⟩
    rw [← e1, ← e2]; rfl
theorem o_times (a b : List Nat) (hda : Dig a) (hdb : Dig b) (hla : a.length ≤ 4398046511104) (hlb : b.length ≤ 4398046511104) (h0 : 0 < val a * val b) : TakesO Tryz.prog 121 [(.sl 105 1 (List.map enc_u32 a)), (.sl 105 1 (List.map enc_u32 b))] 105 1 (ofNat (val a * val b)).length (List.map enc_u32 (ofNat (val a * val b))) := by
  refine fn_introO Tryz.func121 rfl cb121 rfl (ofNat_len_pos h0) ?_
  show PWp _ _ _ _ ⟨[(0, (vl 105 1 enc_u32 a)), (1, (vl 105 1 enc_u32 b))], []⟩
  refine pwp_seq <| kx [] [] (zE (oNl 105 1) <| zZ) ?_
  refine pwp_seq <| kx [(5, (.own 0 105 1 (a.length + b.length)))] [(0, some (bm enc_u32 (List.replicate (a.length + b.length) 0)))] (zM <| zE (oLm el47) <| zM <| zE (oLm el47) <| zE (oAd (a.length + b.length)) <| zN (oMk 0 enc_u32 (0 : Nat) (a.length + b.length) (a.length + b.length) el47 ze105 zo105 by105) <| zM <| zZ) ?_
  refine pwp_seq <| pwp_seq <| kx [(18, (vl 105 1 enc_u32 a)), (19, (vin a.length)), (20, (vin 0))] [] (zM <| zE (oLm el47) <| zM <| zZ) ?_
  refine pwp_block <| pwp_loop (α := Nat × List Nat) (fun (i, out) => ⟨[(1, (vl 105 1 enc_u32 b)), (5, (.own 0 105 1 (a.length + b.length))), (18, (vl 105 1 enc_u32 a)), (19, (vin a.length)), (20, (vin i))], [(0, some (bm enc_u32 out))]⟩) (fun (i, out) => out.length = a.length + b.length ∧ Dig out ∧ i ≤ a.length ∧ (∀ k, i + b.length ≤ k → out.getD k 0 = 0) ∧ val out = val (a.take i) * val b) (fun (i, out) => a.length - i) (0, List.replicate (a.length + b.length) 0) wk ⟨by simp, dig_replicate _, Nat.zero_le _, fun k _ => getD_replicate _ k, by simp [val, val_replicate]⟩ ?_
  rintro ⟨i, out⟩ ⟨hlen, hdo, hi, hz, hv⟩
  have hai := hda.getD i
  refine pwp_seq <| kx [(21, (vb (decide (((i : Nat) : Int) < ((a.length : Nat) : Int)))))] [] (zE oLt <| zZ) ?_
  refine pwp_seq <| pwp_cond rfl (fun h1 => ?_) (fun h1 => ?_)
  · replace h1 := of_decide_eq_true h1
    refine pwp_skip <| pwp_seq <| pwp_block <| pwp_seq <| kx [(6, (vin i)), (7, (vwn (a.getD i 0)))] [] (zM <| zE (oXl el47 i (0 : Nat)) <| zE (oC1 sh105) <| zM <| zM <| zZ) ?_
    refine pwp_seq <| kx [(8, (vqn 0))] [] (zM <| zZ) ?_
    refine pwp_seq <| pwp_seq <| kx [(25, (vl 105 1 enc_u32 b)), (26, (vin b.length)), (27, (vin 0))] [] (zM <| zE (oLm el47) <| zM <| zZ) ?_
    refine pwp_block <| pwp_loop (α := Nat × List Nat × Nat) (fun (j, o2, c) => ⟨[(1, (vl 105 1 enc_u32 b)), (5, (.own 0 105 1 (a.length + b.length))), (6, (vin i)), (7, (vwn (a.getD i 0))), (8, (vqn c)), (18, (vl 105 1 enc_u32 a)), (19, (vin a.length)), (20, (vin i)), (25, (vl 105 1 enc_u32 b)), (26, (vin b.length)), (27, (vin j))], [(0, some (bm enc_u32 o2))]⟩) (fun (j, o2, c) => o2.length = a.length + b.length ∧ Dig o2 ∧ j ≤ b.length ∧ c < 1000000000 ∧ (∀ k, i + b.length ≤ k → o2.getD k 0 = 0) ∧ val o2 + pw (i + j) * c = val (a.take i) * val b + pw i * (a.getD i 0 * val (b.take j))) (fun (j, o2, c) => b.length - j) (0, out, 0) wk ⟨hlen, hdo, Nat.zero_le _, by decide, hz, by simp [val, hv]⟩ ?_
    rintro ⟨j, o2, c⟩ ⟨hlen2, hdo2, hj, hc, hz2, hv2⟩
    have hbj := hdb.getD j
    have hoj := hdo2.getD (i + j)
    have hpq : a.getD i 0 * b.getD j 0 ≤ 999999999 * 999999999 := Nat.mul_le_mul (by omega) (by omega)
    refine pwp_seq <| kx [(28, (vb (decide (((j : Nat) : Int) < ((b.length : Nat) : Int)))))] [] (zE oLt <| zZ) ?_
    refine pwp_seq <| pwp_cond rfl (fun h2 => ?_) (fun h2 => ?_)
    · replace h2 := of_decide_eq_true h2
      refine pwp_skip <| pwp_seq <| pwp_block <| pwp_seq <| kx [(9, (vin j)), (10, (vwn (b.getD j 0)))] [] (zM <| zE (oXl el47 j (0 : Nat)) <| zE (oC1 sh105) <| zM <| zM <| zZ) ?_
      refine pwp_seq <| kx [(11, (vqn (((o2.getD (i + j) 0) + ((a.getD i 0) * (b.getD j 0))) + c)))] [] (zM <| zM <| zM <| zE (oAd (i + j)) <| zE (oXo el47 (i + j)) <| zR (oLp sh105 (i + j) (0 : Nat)) <| zE (oCv un105 in91 (o2.getD (i + j) 0)) <| zM <| zE (oCv un105 in91 (a.getD i 0)) <| zM <| zE (oCv un105 in91 (b.getD j 0)) <| zE (oMl ((a.getD i 0) * (b.getD j 0))) <| zE (oAd ((o2.getD (i + j) 0) + ((a.getD i 0) * (b.getD j 0)))) <| zM <| zE (oAd (((o2.getD (i + j) 0) + ((a.getD i 0) * (b.getD j 0))) + c)) <| zM <| zZ) ?_
      refine kx [(8, (vqn ((((o2.getD (i + j) 0) + ((a.getD i 0) * (b.getD j 0))) + c) / 1000000000)))] [(0, some (bm enc_u32 (o2.set (i + j) ((((o2.getD (i + j) 0) + ((a.getD i 0) * (b.getD j 0))) + c) % 1000000000))))] (zM <| zM <| zM <| zE (oAd (i + j)) <| zM <| zE (oRe ((((o2.getD (i + j) 0) + ((a.getD i 0) * (b.getD j 0))) + c) % 1000000000)) <| zE (oCv un91 in105 ((((o2.getD (i + j) 0) + ((a.getD i 0) * (b.getD j 0))) + c) % 1000000000)) <| zM <| zE (oQu ((((o2.getD (i + j) 0) + ((a.getD i 0) * (b.getD j 0))) + c) / 1000000000)) <| zE (oXo el47 (i + j)) <| zT (oSp sh105 (i + j) ((((o2.getD (i + j) 0) + ((a.getD i 0) * (b.getD j 0))) + c) % 1000000000)) <| zM <| zZ) ?_
      refine kx [(27, (vin (j + 1)))] [] (zE (oAd (j + 1)) <| zM <| zZ) ?_
      exact ⟨(j + 1, o2.set (i + j) ((o2.getD (i + j) 0 + a.getD i 0 * b.getD j 0 + c) % 1000000000), (o2.getD (i + j) 0 + a.getD i 0 * b.getD j 0 + c) / 1000000000), wk, (by obtain ⟨q1, q2⟩ := times_step (by omega) hdo2 hv2 rfl (val_take_succ b j); exact ⟨by simpa using hlen2, q1, by omega, by omega, zero_set (by omega) hz2, q2⟩), (by first | omega | (dsimp only; omega))⟩
    · replace h2 := of_decide_eq_false h2
      have hje : j = b.length := by omega
      rw [hje] at hv2
      refine pwp_exit <| kx [] [(0, some (bm enc_u32 (o2.set (i + b.length) c)))] (zM <| zM <| zM <| zE (oLm el47) <| zE (oAd (i + b.length)) <| zM <| zE (oCv un91 in105 c) <| zE (oXo el47 (i + b.length)) <| zT (oSp sh105 (i + b.length) c) <| zZ) ?_
      refine kx [(20, (vin (i + 1)))] [] (zE (oAd (i + 1)) <| zM <| zZ) ?_
      exact ⟨(i + 1, o2.set (i + b.length) c), wk, (by obtain ⟨q1, q2, q3, q4⟩ := times_row hdo2 (by omega) hlen2 hz2 hc hv2; exact ⟨q1, q2, by omega, q3, q4⟩), (by first | omega | (dsimp only; omega))⟩
  · replace h1 := of_decide_eq_false h1
    have hie : i = a.length := by omega
    rw [hie, List.take_length] at hv
    refine pwp_exit <| pwp_seq <| kx [(4, (.own 0 105 1 ((ofNat (val out)).length)))] [] (zM <| zR ⟨_, e_trimO out (by exact rfl) (by exact rfl) hlen hdo (by omega), by kernel_rfl⟩ <| zM <| zZ) ?_
    rw [← hv]
    refine pwp_ret ⟨4, 0, rfl, rfl, (bm enc_u32 out), rfl, ?_⟩
    exact own_prefix _ (trim_take hdo)
end Go.Proofs.YtleidgohjckmlaaGreat
namespace Go.Proofs.YtleidgohjckmlaaGreat
open Go.Fid
set_option maxRecDepth 4000
set_option linter.unusedVariables false
set_option linter.unusedSimpArgs false
theorem cb114 : callB Tryz.prog 114 = true := by kernel_rfl
theorem in2 : intB Tryz.prog 2 = some .i64 := by kernel_rfl
theorem un2 : (Tryz.prog.underlying 2).isSome = true := by kernel_rfl
set_option maxHeartbeats 4000000 in
theorem t_long (a b : List Nat) (hda : Cano a) (hdb : Cano b) (hb2 : 2 ≤ b.length) (hba : val b ≤ val a) (hla : a.length ≤ 1099511627776) : Takes Tryz.prog 114 [(.sl 105 1 (List.map enc_u32 a)), (.sl 105 1 (List.map enc_u32 b))] (.tup [(.sl 105 1 (List.map enc_u32 (ofNat (val a / val b)))), (.sl 105 1 (List.map enc_u32 (ofNat (val a % val b))))]) := by
  have hab := len_of_le hda hdb hba
  have hsc := scl_bound hdb (by omega)
  have htp := top_pos hdb (by omega)
  have hds : Dig [scl b] := dig_cons.2 ⟨by omega, dig_nil⟩
  have hbp : 0 < val b := by have := val_top hdb.1 (by omega); have h2 := Nat.mul_le_mul_right (pw (b.length - 1)) htp.1; have h3 := pw_pos (b.length - 1); rw [Nat.succ_mul] at h2; omega
  obtain ⟨u0, hue⟩ : ∃ u0, u0 = ofNat (val a * val [scl b]) := ⟨_, rfl⟩
  obtain ⟨v, hve⟩ : ∃ v, v = ofNat (val b * val [scl b]) := ⟨_, rfl⟩
  have hu0 : Dig u0 := by rw [hue]; exact ofNat_dig _
  have hvd : Dig v := by rw [hve]; exact ofNat_dig _
  have hvl : v.length = b.length := by rw [hve, val_one]; exact scl_len hdb (by omega)
  have hvv : val v = val b * scl b := by rw [hve, val_one]; exact ofNat_val _
  have hu0v : val u0 = val a * scl b := by rw [hue, val_one]; exact ofNat_val _
  have hu0l : a.length ≤ u0.length ∧ u0.length ≤ a.length + 1 := by rw [hue, val_one]; exact scl_lenA hda hdb (by omega)
  have hLU : (u0 ++ [0]).length = u0.length + 1 := by simp
  have hcv : Cano v := by rw [hve]; exact ofNat_can _
  have hv1p : 0 < v.getD (b.length - 1) 0 := by rw [← hvl]; exact (top_pos hcv (by omega)).1
  have hpv : pw (b.length - 1) ≤ val v := by have h1 := val_top hvd (by omega); rw [hvl] at h1; have h2 := Nat.mul_le_mul_right (pw (b.length - 1)) hv1p; omega
  refine fn_intro Tryz.func114 rfl cb114 rfl ?_
  show PWp _ _ _ _ ⟨[(0, (vl 105 1 enc_u32 a)), (1, (vl 105 1 enc_u32 b))], []⟩
  refine pwp_seq <| kx [] [] (zE (oNl 105 1) <| zE (oNl 105 1) <| zZ) ?_
  refine pwp_seq <| kx [(6, (vwn (scl b)))] [] (zM <| zM <| zE (oLm el47) <| zE (oSb (b.length - 1)) <| zE (oXl el47 (b.length - 1) (0 : Nat)) <| zE (oC1 sh105) <| zE (oCv un105 in91 (b.getD (b.length - 1) 0)) <| zE (oAd ((b.getD (b.length - 1) 0) + 1)) <| zE (oQu (scl b) (hr := by exact (quo_u64 1000000000 (b.getD (b.length - 1) 0 + 1) (by decide)))) <| zE (oCv un91 in105 (scl b)) <| zM <| zZ) ?_
  refine pwp_seq <| kx [(7, (.own 0 105 1 u0.length))] [(0, some (bm enc_u32 u0))] (zM <| zM <| zE (oBs el47 ze105 zo105) <| zN (oCo 0 (hue ▸ o_times a [scl b] hda.1 hds (by omega) (by simp) (by rw [val_one]; exact Nat.mul_pos (by omega) hsc.1))) <| zM <| zZ) ?_
  refine pwp_seq <| kx [(8, (vl 105 1 enc_u32 v))] [] (zM <| zM <| zE (oBs el47 ze105 zo105) <| zE (oCl (hve ▸ t_times b [scl b] hdb.1 hds (by omega) (by simp))) <| zM <| zZ) ?_
  refine pwp_seq <| kx [(9, (vin b.length))] [] (zM <| zE (oLn el47 b.length (hr := by exact (by simp [hvl]))) <| zM <| zZ) ?_
  refine pwp_seq <| kf [(7, (.own 0 105 1 ((u0 ++ [0]).length)))] [(0, some (bm enc_u32 (u0 ++ [0])))] (zM <| zE (oBs el47 ze105 zo105) <| zA enc_u32 u0 [0] rfl el47 ze105 by105 <| zM <| zF) ?_
  refine pwp_seq <| pwp_seq <| kx [(50, (vb (decide ((((u0 ++ [0]).length : Nat) : Int) ≤ ((a.length : Nat) : Int)))))] [] (zM <| zE (oLo el47) <| zM <| zE (oLm el47) <| zE oLe <| zZ) ?_
  refine pwp_cond rfl (fun h1 => ?_) (fun h1 => ?_)
  · replace h1 := of_decide_eq_true h1
    exfalso; simp at h1; omega
  · replace h1 := of_decide_eq_false h1
    refine pwp_skip <| pwp_seq <| kx [(4, (.own 1 105 1 ((u0 ++ [0]).length - b.length)))] [(1, some (bm enc_u32 (List.replicate ((u0 ++ [0]).length - b.length) 0)))] (zM <| zE (oLo el47) <| zM <| zE (oSb ((u0 ++ [0]).length - b.length)) <| zH (oMk 1 enc_u32 (0 : Nat) ((u0 ++ [0]).length - b.length) ((u0 ++ [0]).length - b.length) el47 ze105 zo105 by105) <| zM <| zZ) ?_
    refine pwp_seq <| pwp_seq <| kx [(10, (vi ((((u0 ++ [0]).length - b.length : Nat) : Int) - 1)))] [] (zM <| zE (oLo el47) <| zM <| zE (oSb ((u0 ++ [0]).length - b.length)) <| zE (zSb ((((u0 ++ [0]).length - b.length : Nat) : Int) - 1)) <| zM <| zZ) ?_
    refine pwp_block <| pwp_loop (α := Nat × List Nat × List Nat) (fun (k, u, q) => ⟨[(4, (.own 1 105 1 ((u0 ++ [0]).length - b.length))), (6, (vwn (scl b))), (7, (.own 0 105 1 ((u0 ++ [0]).length))), (8, (vl 105 1 enc_u32 v)), (9, (vin b.length)), (10, (vi (((k : Nat) : Int) - 1)))], [(0, some (bm enc_u32 u)), (1, some (bm enc_u32 q))]⟩) (fun (k, u, q) => u.length = (u0 ++ [0]).length ∧ Dig u ∧ q.length = (u0 ++ [0]).length - b.length ∧ Dig q ∧ k ≤ (u0 ++ [0]).length - b.length ∧ val u + val v * (pw k * val (q.drop k)) = val a * scl b ∧ val (u.drop k) < val v) (fun (k, u, q) => k) ((u0 ++ [0]).length - b.length, u0 ++ [0], List.replicate ((u0 ++ [0]).length - b.length) 0) wk ⟨rfl, dig_append.2 ⟨hu0, dig_cons.2 ⟨by decide, dig_nil⟩⟩, by simp, dig_replicate _, Nat.le_refl _, by simp [val_append, val, hu0v], by have := long_start hu0 hvl hb2 (by omega) hpv; rw [hLU]; exact this⟩ ?_
    rintro ⟨k, u, q⟩ ⟨hlen, hu, hql, hqd, hk, hU, hW⟩
    refine pwp_seq <| pwp_seq <| kx [(65, (vb (decide (0 ≤ (((k : Nat) : Int) - 1)))))] [] (zM <| zE oGe <| zZ) ?_
    refine pwp_cond (b := decide (0 ≤ (((k : Nat) : Int) - 1))) rfl (fun h2 => ?_) (fun h2 => ?_)
    · replace h2 := of_decide_eq_true h2
      obtain ⟨j, rfl⟩ : ∃ j, k = j + 1 := ⟨k - 1, by omega⟩
      rw [show (((j + 1 : Nat) : Int) - 1) = ((j : Nat) : Int) from by omega]
      have hg1 := hu.getD (j + b.length)
      have hg2 := hu.getD (j + b.length - 1)
      have hg3 := hu.getD (j + b.length - 2)
      have hg4 := hvd.getD (b.length - 1)
      have hg5 := hvd.getD (b.length - 2)
      obtain ⟨z1, z2, z3, z4, z5, z6⟩ := window_tops hu hvd hvl hb2 hW
      obtain ⟨hwz, hww⟩ := window hvd hvl hW
      refine pwp_skip <| pwp_seq <| pwp_block <| pwp_seq <| kd [(10, (vin j)), (11, (vqn (((u.getD (j + b.length) 0) * 1000000000) + (u.getD ((j + b.length) - 1) 0))))] [] mo (wM <| wM <| wM <| wE (oAd (j + b.length)) <| wR ⟨(bm enc_u32 u), e_clo (t_at u (j + b.length)) (by exact rfl) (by exact rfl) (by exact rfl) (.o (.d .nil)) (pub_cells enc_u32 u (fun _ => rfl)) (map_len _ _ hlen) (pub_take _ _ (fun _ => rfl) hlen), by kernel_rfl⟩ <| wE (oCv un105 in91 (u.getD (j + b.length) 0)) <| wE (oMl ((u.getD (j + b.length) 0) * 1000000000)) <| wM <| wM <| wM <| wE (oAd (j + b.length)) <| wE (oSb ((j + b.length) - 1)) <| wE (oXo el47 ((j + b.length) - 1)) <| wR (oLp sh105 ((j + b.length) - 1) (0 : Nat)) <| wE (oCv un105 in91 (u.getD ((j + b.length) - 1) 0)) <| wE (oAd (((u.getD (j + b.length) 0) * 1000000000) + (u.getD ((j + b.length) - 1) 0))) <| wM <| wZ) ?_
      refine pwp_seq <| kd [(12, (vqn ((((u.getD (j + b.length) 0) * 1000000000) + (u.getD ((j + b.length) - 1) 0)) / (v.getD (b.length - 1) 0)))), (13, (vqn ((((u.getD (j + b.length) 0) * 1000000000) + (u.getD ((j + b.length) - 1) 0)) % (v.getD (b.length - 1) 0))))] [] mo (wM <| wM <| wM <| wE (oSb (b.length - 1)) <| wE (oXl el47 (b.length - 1) (0 : Nat)) <| wE (oC1 sh105) <| wE (oCv un105 in91 (v.getD (b.length - 1) 0)) <| wE (oQu ((((u.getD (j + b.length) 0) * 1000000000) + (u.getD ((j + b.length) - 1) 0)) / (v.getD (b.length - 1) 0))) <| wM <| wM <| wM <| wE (oSb (b.length - 1)) <| wE (oXl el47 (b.length - 1) (0 : Nat)) <| wE (oC1 sh105) <| wE (oCv un105 in91 (v.getD (b.length - 1) 0)) <| wE (oRe ((((u.getD (j + b.length) 0) * 1000000000) + (u.getD ((j + b.length) - 1) 0)) % (v.getD (b.length - 1) 0))) <| wM <| wM <| wZ) ?_
      refine pwp_seqjoin (α := Nat × Nat) (fun (G, R) => ⟨[(4, (.own 1 105 1 ((u0 ++ [0]).length - b.length))), (6, (vwn (scl b))), (7, (.own 0 105 1 ((u0 ++ [0]).length))), (8, (vl 105 1 enc_u32 v)), (9, (vin b.length)), (10, (vin j)), (12, (vqn G))], [(0, some (bm enc_u32 u)), (1, some (bm enc_u32 q))]⟩) (fun (G, R) => G < 1000000000 ∧ val (u.drop j) / val v ≤ G ∧ G ≤ val (u.drop j) / val v + 1) ?_ ?_
      · refine pwp_loop (α := Nat × Nat) (fun (G, R) => ⟨[(4, (.own 1 105 1 ((u0 ++ [0]).length - b.length))), (6, (vwn (scl b))), (7, (.own 0 105 1 ((u0 ++ [0]).length))), (8, (vl 105 1 enc_u32 v)), (9, (vin b.length)), (10, (vin j)), (12, (vqn G)), (13, (vqn R))], [(0, some (bm enc_u32 u)), (1, some (bm enc_u32 q))]⟩) (fun (G, R) => G * (v.getD (b.length - 1) 0) + R = (u.getD (j + b.length) 0 * 1000000000 + u.getD (j + b.length - 1) 0) ∧ val (u.drop j) / val v ≤ G ∧ R < 1000000000 ∧ G ≤ 1999999999) (fun (G, R) => G) ((u.getD (j + b.length) 0 * 1000000000 + u.getD (j + b.length - 1) 0) / v.getD (b.length - 1) 0, (u.getD (j + b.length) 0 * 1000000000 + u.getD (j + b.length - 1) 0) % v.getD (b.length - 1) 0) wk ⟨by rw [Nat.mul_comm]; exact Nat.div_add_mod _ _, guess_first0 z5 z4 hv1p hg3, Nat.lt_trans (Nat.mod_lt _ hv1p) hg4, guess_top hv1p z1 hg2⟩ ?_
        rintro ⟨G, R⟩ ⟨hG0, hG1, hR, hGb⟩
        have hpq : G * v.getD (b.length - 2) 0 ≤ 1999999999 * 999999999 := Nat.mul_le_mul hGb (by omega)
        refine pwp_seq <| pwp_seq <| kd [(123, (vb (decide (1000000000 ≤ ((G : Nat) : Int)) || decide (((((R * 1000000000) + (u.getD ((j + b.length) - 2) 0)) : Nat) : Int) < (((G * (v.getD (b.length - 2) 0)) : Nat) : Int)))))] [] mo ?_ ?_
        · refine wM <| wE oGe <| wE (oV (vb (decide (1000000000 ≤ ((G : Nat) : Int)))) (mv_ok (by kernel_rfl))) <| ?_
          rcases hb3 : (decide (1000000000 ≤ ((G : Nat) : Int))) with _ | _
          · replace hb3 := of_decide_eq_false hb3
            exact wM <| wM <| wM <| wE (oSb (b.length - 2)) <| wE (oXl el47 (b.length - 2) (0 : Nat)) <| wE (oC1 sh105) <| wE (oCv un105 in91 (v.getD (b.length - 2) 0)) <| wE (oMl (G * (v.getD (b.length - 2) 0))) <| wM <| wE (oMl (R * 1000000000)) <| wM <| wM <| wM <| wE (oAd (j + b.length)) <| wE (oSb ((j + b.length) - 2)) <| wE (oXo el47 ((j + b.length) - 2)) <| wR (oLp sh105 ((j + b.length) - 2) (0 : Nat)) <| wE (oCv un105 in91 (u.getD ((j + b.length) - 2) 0)) <| wE (oAd ((R * 1000000000) + (u.getD ((j + b.length) - 2) 0))) <| wE oGt <| wE oPo <| wZ
          · replace hb3 := of_decide_eq_true hb3
            exact wK <| wK <| wK <| wK <| wK <| wK <| wK <| wK <| wK <| wK <| wK <| wK <| wK <| wK <| wK <| wK <| wK <| wK <| wK <| wK <| wE oPt <| wZ
        refine pwp_cond rfl (fun h4 => ?_) (fun h4 => ?_)
        · rw [Bool.or_eq_true, decide_eq_true_eq, decide_eq_true_eq] at h4
          have hgl := guess_less (pw_pos _) z5 z4 hG0 hG1 hv1p z2 (by omega)
          refine pwp_skip <| pwp_block <| pwp_seq <| kx [(12, (vqn (G - 1)))] [] (zM <| zE (oSb (G - 1)) <| zM <| zZ) ?_
          refine pwp_seq <| kx [(13, (vqn (R + (v.getD (b.length - 1) 0))))] [] (zM <| zM <| zM <| zE (oSb (b.length - 1)) <| zE (oXl el47 (b.length - 1) (0 : Nat)) <| zE (oC1 sh105) <| zE (oCv un105 in91 (v.getD (b.length - 1) 0)) <| zE (oAd (R + (v.getD (b.length - 1) 0))) <| zM <| zZ) ?_
          refine pwp_seq <| kx [(135, (vb (decide (1000000000 ≤ (((R + (v.getD (b.length - 1) 0)) : Nat) : Int)))))] [] (zM <| zE oGe <| zZ) ?_
          refine pwp_cond rfl (fun h5 => ?_) (fun h5 => ?_)
          · replace h5 := of_decide_eq_true h5
            refine pwp_exit ?_
            refine pjoin_exit (id := 2) (α := Nat × Nat) (Q := fun _ _ => True) (St := fun (G, R) => ⟨[(4, (.own 1 105 1 ((u0 ++ [0]).length - b.length))), (6, (vwn (scl b))), (7, (.own 0 105 1 ((u0 ++ [0]).length))), (8, (vl 105 1 enc_u32 v)), (9, (vin b.length)), (10, (vin j)), (12, (vqn G))], [(0, some (bm enc_u32 u)), (1, some (bm enc_u32 q))]⟩) (I := fun (G, R) => G < 1000000000 ∧ val (u.drop j) / val v ≤ G ∧ G ≤ val (u.drop j) / val v + 1) ?_
            exact ⟨(G - 1, R + v.getD (b.length - 1) 0), wk, (by have hd := guess_dec hgl.2 hG0; have hgb := guess_break hd z1 hg2 (by omega); exact ⟨hgb, hgl.1, guess_near z6 z3 hd hv1p (by omega) hgb (Nat.le_trans (Nat.mul_le_mul (show G - 1 ≤ 999999999 by omega) (show v.getD (b.length - 2) 0 ≤ 999999999 by omega)) (by omega))⟩)⟩
          · replace h5 := of_decide_eq_false h5
            refine pwp_skip ?_
            exact ⟨(G - 1, R + v.getD (b.length - 1) 0), wk, (by exact ⟨guess_dec hgl.2 hG0, hgl.1, by omega, by omega⟩), (by first | omega | (dsimp only; omega))⟩
        · refine pwp_exit ?_
          refine pjoin_exit (id := 2) (α := Nat × Nat) (Q := fun _ _ => True) (St := fun (G, R) => ⟨[(4, (.own 1 105 1 ((u0 ++ [0]).length - b.length))), (6, (vwn (scl b))), (7, (.own 0 105 1 ((u0 ++ [0]).length))), (8, (vl 105 1 enc_u32 v)), (9, (vin b.length)), (10, (vin j)), (12, (vqn G))], [(0, some (bm enc_u32 u)), (1, some (bm enc_u32 q))]⟩) (I := fun (G, R) => G < 1000000000 ∧ val (u.drop j) / val v ≤ G ∧ G ≤ val (u.drop j) / val v + 1) ?_
          exact ⟨(G, R), wk, (by rw [Bool.or_eq_false_iff, decide_eq_false_iff_not, decide_eq_false_iff_not] at h4; exact ⟨by omega, hG1, guess_near z6 z3 hG0 hv1p (by omega) (by omega) (by omega)⟩)⟩
      · rintro ⟨G, R⟩ ⟨hG, hG1, hG2⟩
        have hjn : j + b.length < (u0 ++ [0]).length := by omega
        refine pwp_seq <| kx [(14, (vin 0)), (15, (vqn 0))] [] (zM <| zM <| zZ) ?_
        refine pwp_seq <| pwp_seq <| kx [(136, (vin b.length)), (137, (vin 0))] [] (zM <| zM <| zZ) ?_
        refine pwp_block <| pwp_loop (α := Nat × List Nat × Nat × Nat) (fun (i, u2, bo, ca) => ⟨[(4, (.own 1 105 1 ((u0 ++ [0]).length - b.length))), (6, (vwn (scl b))), (7, (.own 0 105 1 ((u0 ++ [0]).length))), (8, (vl 105 1 enc_u32 v)), (9, (vin b.length)), (10, (vin j)), (12, (vqn G)), (14, (vi ((bo : Nat) : Int))), (15, (vqn ca)), (136, (vin b.length)), (137, (vin i))], [(0, some (bm enc_u32 u2)), (1, some (bm enc_u32 q))]⟩) (fun (i, u2, bo, ca) => u2.length = (u0 ++ [0]).length ∧ Dig u2 ∧ u2.take j = u.take j ∧ u2.drop (j + i) = u.drop (j + i) ∧ i ≤ b.length ∧ bo ≤ 1 ∧ ca < 1000000000 ∧ val ((u2.drop j).take i) + G * val (v.take i) = val ((u.drop j).take i) + pw i * (ca + bo)) (fun (i, u2, bo, ca) => b.length - i) (0, u, 0, 0) wk ⟨hlen, hu, rfl, rfl, Nat.zero_le _, Nat.zero_le _, by decide, by simp [val]⟩ ?_
        rintro ⟨i, u2, bo, ca⟩ ⟨hl2, hd2, ht2, hd2', hin, hbo, hca, hv2⟩
        have hgi := hvd.getD i
        have hgu := hd2.getD (i + j)
        have hpq : G * v.getD i 0 ≤ 999999999 * 999999999 := Nat.mul_le_mul (by omega) (by omega)
        refine pwp_seq <| kx [(138, (vb (decide (((i : Nat) : Int) < ((b.length : Nat) : Int)))))] [] (zE oLt <| zZ) ?_
        refine pwp_seq <| pwp_cond rfl (fun h6 => ?_) (fun h6 => ?_)
        · replace h6 := of_decide_eq_true h6
          have hi : i < b.length := by omega
          refine pwp_skip <| pwp_seq <| pwp_block <| pwp_seq <| kx [(16, (vin i))] [] (zM <| zM <| zZ) ?_
          refine pwp_seq <| kx [(17, (vqn ((G * (v.getD i 0)) + ca)))] [] (zM <| zM <| zM <| zE (oXl el47 i (0 : Nat)) <| zE (oC1 sh105) <| zE (oCv un105 in91 (v.getD i 0)) <| zE (oMl (G * (v.getD i 0))) <| zM <| zE (oAd ((G * (v.getD i 0)) + ca)) <| zM <| zZ) ?_
          refine pwp_seq <| kx [(15, (vqn (((G * (v.getD i 0)) + ca) / 1000000000)))] [] (zM <| zE (oQu (((G * (v.getD i 0)) + ca) / 1000000000)) <| zM <| zZ) ?_
          refine pwp_seq <| kx [(18, (vi (((((u2.getD (i + j) 0) : Nat) : Int) - ((bo : Nat) : Int)) - (((((G * (v.getD i 0)) + ca) % 1000000000) : Nat) : Int))))] [] (zM <| zM <| zM <| zE (oAd (i + j)) <| zE (oXo el47 (i + j)) <| zR (oLp sh105 (i + j) (0 : Nat)) <| zE (oCv un105 in2 (u2.getD (i + j) 0)) <| zM <| zE (zSb ((((u2.getD (i + j) 0) : Nat) : Int) - ((bo : Nat) : Int))) <| zM <| zE (oRe (((G * (v.getD i 0)) + ca) % 1000000000)) <| zE (oCv un91 in2 (((G * (v.getD i 0)) + ca) % 1000000000)) <| zE (zSb (((((u2.getD (i + j) 0) : Nat) : Int) - ((bo : Nat) : Int)) - (((((G * (v.getD i 0)) + ca) % 1000000000) : Nat) : Int))) <| zM <| zZ) ?_
          refine pwp_seq <| kx [(14, (vin 0))] [] (zM <| zZ) ?_
          refine pwp_seq <| pwp_seq <| kx [(165, (vb (decide ((((((u2.getD (i + j) 0) : Nat) : Int) - ((bo : Nat) : Int)) - (((((G * (v.getD i 0)) + ca) % 1000000000) : Nat) : Int)) < 0))))] [] (zM <| zE oLt <| zZ) ?_
          refine pwp_cond rfl (fun h7 => ?_) (fun h7 => ?_)
          · replace h7 := of_decide_eq_true h7
            refine kx [(14, (vin 1)), (18, (vi ((((((u2.getD (i + j) 0) : Nat) : Int) - ((bo : Nat) : Int)) - (((((G * (v.getD i 0)) + ca) % 1000000000) : Nat) : Int)) + 1000000000)))] [] (zM <| zE (zAd ((((((u2.getD (i + j) 0) : Nat) : Int) - ((bo : Nat) : Int)) - (((((G * (v.getD i 0)) + ca) % 1000000000) : Nat) : Int)) + 1000000000)) <| zM <| zM <| zZ) ?_
            refine kx [] [(0, some (bm enc_u32 (u2.set (i + j) ((u2.getD (i + j) 0 + 1000000000) - bo - (G * v.getD i 0 + ca) % 1000000000))))] (zM <| zM <| zM <| zE (oAd (i + j)) <| zM <| zE (oCv un2 in105 ((u2.getD (i + j) 0 + 1000000000) - bo - (G * v.getD i 0 + ca) % 1000000000) (hr := by exact (wu32 (by omega) (by omega) (by omega)))) <| zE (oXo el47 (i + j)) <| zT (oSp sh105 (i + j) ((u2.getD (i + j) 0 + 1000000000) - bo - (G * v.getD i 0 + ca) % 1000000000)) <| zZ) ?_
            refine kx [(137, (vin (i + 1)))] [] (zE (oAd (i + 1)) <| zM <| zZ) ?_
            exact ⟨(i + 1, u2.set (i + j) ((u2.getD (i + j) 0 + 1000000000) - bo - (G * v.getD i 0 + ca) % 1000000000), 1, (G * v.getD i 0 + ca) / 1000000000), wk, (by obtain ⟨q1, q2, q3, q4, q5⟩ := msub_step (v := v) (L := (u0 ++ [0]).length) (e := (u2.getD (i + j) 0 + 1000000000) - bo - (G * v.getD i 0 + ca) % 1000000000) (borrow' := 1) hjn hi hl2 hlen hd2 ht2 hd2' hv2 rfl (by omega) (by omega); exact ⟨q1, q2, q3, q4, by omega, by omega, by omega, q5⟩), (by first | omega | (dsimp only; omega))⟩
          · replace h7 := of_decide_eq_false h7
            refine pwp_skip <| kx [] [(0, some (bm enc_u32 (u2.set (i + j) (u2.getD (i + j) 0 - bo - (G * v.getD i 0 + ca) % 1000000000))))] (zM <| zM <| zM <| zE (oAd (i + j)) <| zM <| zE (oCv un2 in105 (u2.getD (i + j) 0 - bo - (G * v.getD i 0 + ca) % 1000000000) (hr := by exact (wu32 (by omega) (by omega) (by omega)))) <| zE (oXo el47 (i + j)) <| zT (oSp sh105 (i + j) (u2.getD (i + j) 0 - bo - (G * v.getD i 0 + ca) % 1000000000)) <| zZ) ?_
            refine kx [(137, (vin (i + 1)))] [] (zE (oAd (i + 1)) <| zM <| zZ) ?_
            exact ⟨(i + 1, u2.set (i + j) (u2.getD (i + j) 0 - bo - (G * v.getD i 0 + ca) % 1000000000), 0, (G * v.getD i 0 + ca) / 1000000000), wk, (by obtain ⟨q1, q2, q3, q4, q5⟩ := msub_step (v := v) (L := (u0 ++ [0]).length) (e := u2.getD (i + j) 0 - bo - (G * v.getD i 0 + ca) % 1000000000) (borrow' := 0) hjn hi hl2 hlen hd2 ht2 hd2' hv2 rfl (by omega) (by omega); exact ⟨q1, q2, q3, q4, by omega, by omega, by omega, q5⟩), (by first | omega | (dsimp only; omega))⟩
        · replace h6 := of_decide_eq_false h6
          have hie : i = b.length := by omega
          rw [hie] at hd2' hv2 hin
          obtain ⟨m1, m2, m3⟩ := msub_end hu hd2 hvd hvl hW hG1 hG2 hd2' hv2
          refine pwp_exit <| pwp_seq <| kx [(19, (vi (((((u2.getD (j + b.length) 0) : Nat) : Int) - ((bo : Nat) : Int)) - ((ca : Nat) : Int))))] [] (zM <| zM <| zM <| zE (oAd (j + b.length)) <| zE (oXo el47 (j + b.length)) <| zR (oLp sh105 (j + b.length) (0 : Nat)) <| zE (oCv un105 in2 (u2.getD (j + b.length) 0)) <| zM <| zE (zSb ((((u2.getD (j + b.length) 0) : Nat) : Int) - ((bo : Nat) : Int))) <| zM <| zE (oCv un91 in2 ca) <| zE (zSb (((((u2.getD (j + b.length) 0) : Nat) : Int) - ((bo : Nat) : Int)) - ((ca : Nat) : Int))) <| zM <| zZ) ?_
          refine pwp_seq <| pwp_seq <| kx [(189, (vb (decide ((((((u2.getD (j + b.length) 0) : Nat) : Int) - ((bo : Nat) : Int)) - ((ca : Nat) : Int)) < 0))))] [] (zM <| zE oLt <| zZ) ?_
          refine pwp_cond rfl (fun h8 => ?_) (fun h8 => ?_)
          · replace h8 := of_decide_eq_true h8
            obtain ⟨n1, n2, r, n3, n4, n5⟩ := m2 (by omega)
            refine pwp_seq <| kx [] [(0, some (bm enc_u32 (u2.set (j + b.length) 999999999)))] (zM <| zM <| zM <| zE (oAd (j + b.length)) <| zM <| zE (zAd ((((((u2.getD (j + b.length) 0) : Nat) : Int) - ((bo : Nat) : Int)) - ((ca : Nat) : Int)) + 1000000000)) <| zE (oCv un2 in105 999999999 (hr := by exact (wu32 (by omega) (by omega) (by omega)))) <| zE (oXo el47 (j + b.length)) <| zT (oSp sh105 (j + b.length) 999999999) <| zZ) ?_
            refine pwp_seq <| kx [(12, (vqn (G - 1)))] [] (zM <| zE (oSb (G - 1)) <| zM <| zZ) ?_
            refine pwp_seq <| kx [(20, (vwn 0))] [] (zM <| zZ) ?_
            refine pwp_seq <| pwp_seq <| kx [(200, (vin b.length)), (201, (vin 0))] [] (zM <| zM <| zZ) ?_
            refine pwp_block <| pwp_loop (α := Nat × List Nat × Nat) (fun (i, u3, c) => ⟨[(4, (.own 1 105 1 ((u0 ++ [0]).length - b.length))), (6, (vwn (scl b))), (7, (.own 0 105 1 ((u0 ++ [0]).length))), (8, (vl 105 1 enc_u32 v)), (9, (vin b.length)), (10, (vin j)), (12, (vqn (G - 1))), (20, (vwn c)), (200, (vin b.length)), (201, (vin i))], [(0, some (bm enc_u32 u3)), (1, some (bm enc_u32 q))]⟩) (fun (i, u3, c) => u3.length = (u0 ++ [0]).length ∧ Dig u3 ∧ u3.take j = (u2.set (j + b.length) 999999999).take j ∧ u3.drop (j + i) = (u2.set (j + b.length) 999999999).drop (j + i) ∧ i ≤ b.length ∧ c ≤ 1 ∧ val ((u3.drop j).take i) + pw i * c = val (((u2.set (j + b.length) 999999999).drop j).take i) + val (v.take i)) (fun (i, u3, c) => b.length - i) (0, u2.set (j + b.length) 999999999, 0) wk ⟨by simpa using hl2, hd2.set _ (by decide), rfl, rfl, Nat.zero_le _, Nat.zero_le _, by simp [val]⟩ ?_
            rintro ⟨i, u3, c⟩ ⟨hl3, hd3, ht3, hd3', hin, hc, hv3⟩
            have hgi := hvd.getD i
            have hgu := hd3.getD (i + j)
            have hgt := hd3.getD (j + b.length)
            refine pwp_seq <| kx [(202, (vb (decide (((i : Nat) : Int) < ((b.length : Nat) : Int)))))] [] (zE oLt <| zZ) ?_
            refine pwp_seq <| pwp_cond rfl (fun h9 => ?_) (fun h9 => ?_)
            · replace h9 := of_decide_eq_true h9
              have hi : i < b.length := by omega
              refine pwp_skip <| pwp_seq <| pwp_block <| pwp_seq <| kx [(21, (vin i))] [] (zM <| zM <| zZ) ?_
              refine pwp_seq <| kd [(22, (vwn (((u3.getD (i + j) 0) + (v.getD i 0)) + c)))] [] mo (wM <| wM <| wM <| wE (oAd (i + j)) <| wE (oXo el47 (i + j)) <| wR (oLp sh105 (i + j) (0 : Nat)) <| wM <| wM <| wE (oXl el47 i (0 : Nat)) <| wE (oC1 sh105) <| wE (oAd ((u3.getD (i + j) 0) + (v.getD i 0))) <| wM <| wE (oAd (((u3.getD (i + j) 0) + (v.getD i 0)) + c)) <| wM <| wZ) ?_
              refine pwp_seq <| kx [(20, (vwn 0))] [] (zM <| zZ) ?_
              refine pwp_seq <| pwp_seq <| kx [(218, (vb (decide (1000000000 ≤ (((((u3.getD (i + j) 0) + (v.getD i 0)) + c) : Nat) : Int)))))] [] (zM <| zE oGe <| zZ) ?_
              refine pwp_cond rfl (fun h10 => ?_) (fun h10 => ?_)
              · replace h10 := of_decide_eq_true h10
                refine kx [(20, (vwn 1)), (22, (vwn ((((u3.getD (i + j) 0) + (v.getD i 0)) + c) - 1000000000)))] [] (zM <| zE (oSb ((((u3.getD (i + j) 0) + (v.getD i 0)) + c) - 1000000000)) <| zM <| zM <| zZ) ?_
                refine kx [] [(0, some (bm enc_u32 (u3.set (i + j) ((((u3.getD (i + j) 0) + (v.getD i 0)) + c) - 1000000000))))] (zM <| zM <| zM <| zE (oAd (i + j)) <| zM <| zE (oXo el47 (i + j)) <| zT (oSp sh105 (i + j) ((((u3.getD (i + j) 0) + (v.getD i 0)) + c) - 1000000000)) <| zZ) ?_
                refine kx [(201, (vin (i + 1)))] [] (zE (oAd (i + 1)) <| zM <| zZ) ?_
                exact ⟨(i + 1, u3.set (i + j) (u3.getD (i + j) 0 + v.getD i 0 + c - 1000000000), 1), wk, (by obtain ⟨q1, q2, q3, q4, q5⟩ := addb_step (v := v) (L := (u0 ++ [0]).length) (s := u3.getD (i + j) 0 + v.getD i 0 + c) (e := u3.getD (i + j) 0 + v.getD i 0 + c - 1000000000) (c' := 1) hjn hi hl3 (by simpa using hl2) hd3 ht3 hd3' hv3 rfl (by omega) (by omega); exact ⟨q1, q2, q3, q4, by omega, by omega, q5⟩), (by first | omega | (dsimp only; omega))⟩
              · replace h10 := of_decide_eq_false h10
                refine pwp_skip <| kx [] [(0, some (bm enc_u32 (u3.set (i + j) (((u3.getD (i + j) 0) + (v.getD i 0)) + c))))] (zM <| zM <| zM <| zE (oAd (i + j)) <| zM <| zE (oXo el47 (i + j)) <| zT (oSp sh105 (i + j) (((u3.getD (i + j) 0) + (v.getD i 0)) + c)) <| zZ) ?_
                refine kx [(201, (vin (i + 1)))] [] (zE (oAd (i + 1)) <| zM <| zZ) ?_
                exact ⟨(i + 1, u3.set (i + j) (u3.getD (i + j) 0 + v.getD i 0 + c), 0), wk, (by obtain ⟨q1, q2, q3, q4, q5⟩ := addb_step (v := v) (L := (u0 ++ [0]).length) (s := u3.getD (i + j) 0 + v.getD i 0 + c) (e := u3.getD (i + j) 0 + v.getD i 0 + c) (c' := 0) hjn hi hl3 (by simpa using hl2) hd3 ht3 hd3' hv3 rfl (by omega) (by omega); exact ⟨q1, q2, q3, q4, by omega, by omega, q5⟩), (by first | omega | (dsimp only; omega))⟩
            · replace h9 := of_decide_eq_false h9
              have hie2 : i = b.length := by omega
              rw [hie2] at hd3' hv3 hin
              refine pwp_exit <| kx [] [(0, some (bm enc_u32 (u3.set (j + b.length) (((u3.getD (j + b.length) 0) + c) % 1000000000))))] (zM <| zM <| zM <| zE (oAd (j + b.length)) <| zM <| zM <| zM <| zE (oAd (j + b.length)) <| zE (oXo el47 (j + b.length)) <| zR (oLp sh105 (j + b.length) (0 : Nat)) <| zM <| zE (oAd ((u3.getD (j + b.length) 0) + c)) <| zE (oRe (((u3.getD (j + b.length) 0) + c) % 1000000000)) <| zE (oXo el47 (j + b.length)) <| zT (oSp sh105 (j + b.length) (((u3.getD (j + b.length) 0) + c) % 1000000000)) <| zZ) ?_
              refine kx [] [(1, some (bm enc_u32 (q.set j (G - 1))))] (zM <| zM <| zM <| zE (oCv un91 in105 (G - 1)) <| zE (oXo el47 j) <| zT (oSp sh105 j (G - 1)) <| zZ) ?_
              refine kx [(10, (vi (((j : Nat) : Int) - 1)))] [] (zM <| zE (zSb (((j : Nat) : Int) - 1)) <| zM <| zZ) ?_
              exact ⟨(j, u3.set (j + b.length) ((u3.getD (j + b.length) 0 + c) % 1000000000), q.set j (G - 1)), wk, (by obtain ⟨p1, p2⟩ := neg_end hd3 hvd hvl (by omega) (by omega) (hl2.trans hlen.symm) (hl3.trans hlen.symm) ht2 hd2' hW hc ht3 hd3' hv3 n3 n4 n5 hU; exact ⟨by simpa using hl3, hd3.set _ (Nat.mod_lt _ (by decide)), by simpa using hql, hqd.set _ (by omega), by omega, p1, p2⟩), (by first | omega | (dsimp only; omega))⟩
          · replace h8 := of_decide_eq_false h8
            obtain ⟨n1, n2, n3⟩ := m3 (by omega)
            refine kx [] [(0, some (bm enc_u32 (u2.set (j + b.length) 0)))] (zM <| zM <| zM <| zE (oAd (j + b.length)) <| zM <| zE (oCv un2 in105 0 (hr := by exact (wu32 (by omega) (by omega) (by omega)))) <| zE (oXo el47 (j + b.length)) <| zT (oSp sh105 (j + b.length) 0) <| zZ) ?_
            refine kx [] [(1, some (bm enc_u32 (q.set j G)))] (zM <| zM <| zM <| zE (oCv un91 in105 G) <| zE (oXo el47 j) <| zT (oSp sh105 j G) <| zZ) ?_
            refine kx [(10, (vi (((j : Nat) : Int) - 1)))] [] (zM <| zE (zSb (((j : Nat) : Int) - 1)) <| zM <| zZ) ?_
            exact ⟨(j, u2.set (j + b.length) 0, q.set j G), wk, (by obtain ⟨p1, p2⟩ := pos_end hu hvd hvl (by omega) (by omega) (hl2.trans hlen.symm) ht2 hd2' hW n2 n3 hU; exact ⟨by simpa using hl2, hd2.set _ (by decide), by simpa using hql, hqd.set _ (by omega), by omega, p1, p2⟩), (by first | omega | (dsimp only; omega))⟩
    · replace h2 := of_decide_eq_false h2
      obtain rfl : k = 0 := by omega
      obtain ⟨e1, e2⟩ := scl_div hdb (by omega) (by rw [hvv] at hU; exact hU) (by rw [hvv] at hW; exact hW)
      rw [List.drop_zero] at hW
      refine pwp_exit <| pwp_seq <| pwp_sim (publish (t := 7) (k := 0) (es := List.map enc_u32 u) rfl rfl (pub_cells _ _ (fun _ => rfl)) (map_len _ _ hlen) (pub_take _ _ (fun _ => rfl) hlen)) ?_
      refine kx [(5, (vl 105 1 enc_u32 (ofNat (val (ofNat (val (List.take b.length u))) / (scl b)))))] [] (zM <| zM <| zE (e_slc (l := 0) (h := b.length) (kl := .i64) (kh := .i64) (es' := List.map enc_u32 (List.take b.length u)) (by exact rfl) el47 (by exact rfl) (by exact rfl) (by exact rfl) (Nat.zero_le _) (by simp only [List.length_map]; omega) (by rw [List.drop_zero, List.map_take])) <| zE (oCl (t_trim (List.take b.length u) (hu.take _) (by rw [List.length_take]; omega))) <| zM <| zE (oCl (t_short (ofNat (val (List.take b.length u))) (scl b) (ofNat_dig _) (by omega) (by omega) (Nat.le_trans (ofNat_val_len (hu.take _)) (by rw [List.length_take]; omega)))) <| zM <| zE oEx <| zE oEx <| zM <| zZ) ?_
      refine pwp_seq <| pwp_sim (publish (t := 4) (k := 1) (es := List.map enc_u32 q) rfl rfl (pub_cells _ _ (fun _ => rfl)) (map_len _ _ hql) (pub_take _ _ (fun _ => rfl) hql)) ?_
      refine kx [(4, (vl 105 1 enc_u32 (ofNat (val q)))), (5, (vl 105 1 enc_u32 (ofNat (val (ofNat (val (List.take b.length u))) / (scl b)))))] [] (zM <| zE (oCl (t_trim q hqd (by omega))) <| zM <| zM <| zM <| zZ) ?_
      refine pwp_ret ⟨_, (.tmp (d := (.sl 105 1 (List.map enc_u32 (ofNat (val q))))) rfl (.tmp (d := (.sl 105 1 (List.map enc_u32 (ofNat (val (ofNat (val (List.take b.length u))) / (scl b)))))) rfl .nil)), ?_⟩
      rw [← e1, ← e2, ofNat_val, val_take_of_lt (Nat.lt_trans hW (by rw [← hvl]; exact val_lt hvd))]; rfl
end Go.Proofs.YtleidgohjckmlaaGreat
