/- Part 7 of a proof: rules, plain facts, and functions walked. -/
import Derived.Test.YtbecgnplakngdaaGreatM6
namespace Go.Proofs.YtbecgnplakngdaaGreat
open Go.Fid
set_option maxRecDepth 4000
set_option linter.unusedVariables false
set_option linter.unusedSimpArgs false
theorem cb25 : callB Tryz.prog 25 = true := by kernel_rfl
theorem cb27 : callB Tryz.prog 27 = true := by kernel_rfl
theorem cb94 : callB Tryz.prog 94 = true := by kernel_rfl
theorem cb133 : callB Tryz.prog 133 = true := by kernel_rfl
theorem cb173 : callB Tryz.prog 173 = true := by kernel_rfl
theorem cb174 : callB Tryz.prog 174 = true := by kernel_rfl
theorem cb175 : callB Tryz.prog 175 = true := by kernel_rfl
theorem cb190 : callB Tryz.prog 190 = true := by kernel_rfl
theorem cb191 : callB Tryz.prog 191 = true := by kernel_rfl
theorem cb192 : callB Tryz.prog 192 = true := by kernel_rfl
theorem ft40_1 : fieldT Tryz.prog 40 1 = some (1, 38) := by kernel_rfl
theorem r_group (l : List Nat) (i : Nat) (hd : Dig l) : Takes Tryz.prog 192 [(.sl 152 1 (List.map enc_u32 l)), (.val (.int .i64 (((i : Nat) : Int))))] (.val (.int .u64 ((((l.getD i 0) : Nat) : Int)))) := by
  have hg := hd.getD i
  refine fn_intro Tryz.func192 rfl cb192 rfl ?_
  show PWp _ _ _ _ ⟨[(0, (vl 152 1 enc_u32 l)), (1, (vin i))], []⟩
  refine pwp_seq <| kx [] [] (zM <| zZ) ?_
  refine pwp_seq <| pwp_seq <| kx [(8, (vb (decide (((i : Nat) : Int) < ((l.length : Nat) : Int)))))] [] (zM <| zM <| zE (oLm el38) <| zE oLt <| zZ) ?_
  refine pwp_cond rfl (fun h1 => ?_) (fun h1 => ?_)
  · replace h1 := of_decide_eq_true h1
    refine pwp_seq <| kx [(4, (vqn (l.getD i 0)))] [] (zM <| zM <| zE (oXl el38 i (0 : Nat)) <| zE (oC1 sh152) <| zE (oCv un152 in154 (l.getD i 0)) <| zM <| zZ) ?_
    refine pwp_ret ⟨_, (.tmp (d := (.val (.int .u64 ((((l.getD i 0) : Nat) : Int))))) rfl .nil), ?_⟩
    rfl
  · replace h1 := of_decide_eq_false h1
    refine pwp_skip <| pwp_seq <| kx [(4, (vqn 0))] [] (zM <| zZ) ?_
    refine pwp_ret ⟨_, (.tmp (d := (.val (.int .u64 (0)))) rfl .nil), ?_⟩
    rw [show l.getD i 0 = 0 from getD_out (by omega)]; rfl
theorem r_made (neg : Bool) (l : List Nat) (hd : Dig l) (hb : l.length ≤ 17592186044416) : Takes Tryz.prog 94 [(.val (.bool (neg))), (.sl 152 1 (List.map enc_u32 l))] (encI (mkI neg (val l))) := by
  refine fn_intro Tryz.func94 rfl cb94 rfl ?_
  show PWp _ _ _ _ ⟨[(0, (vb neg)), (1, (vl 152 1 enc_u32 l))], []⟩
  refine pwp_seq <| kx [(4, (.ref 0 0))] [(0, some (bx (encI (RInt.mk false []))))] (zN (oAl 0 ze40 zo40) <| zZ) ?_
  refine pwp_seq <| kx [(5, (vin l.length))] [] (zM <| zE (oLm el38) <| zM <| zZ) ?_
  refine pwp_seq <| pwp_block <| pwp_loop (α := Nat) (fun k => ⟨[(0, (vb neg)), (1, (vl 152 1 enc_u32 l)), (4, (.ref 0 0)), (5, (vin k))], [(0, some (bx (encI (RInt.mk false []))))]⟩) (fun k => k ≤ l.length ∧ val (l.take k) = val l) (fun k => k) l.length wk ⟨Nat.le_refl _, by rw [List.take_length]⟩ ?_
  rintro k ⟨hk, hv⟩
  refine pwp_seq <| pwp_seq <| kx [(17, (vb (decide (0 < ((k : Nat) : Int)) && ((((l.getD (k - 1) 0) : Nat) : Int) == 0))))] [] ?_ ?_
  · refine zM <| zE oGt <| zE (oV (vb (decide (0 < ((k : Nat) : Int)))) (mv_ok (by kernel_rfl))) <| ?_
    rcases hb1 : (decide (0 < ((k : Nat) : Int))) with _ | _
    · replace hb1 := of_decide_eq_false hb1
      exact zK <| zK <| zK <| zK <| zK <| zK <| zE oPf <| zZ
    · replace hb1 := of_decide_eq_true hb1
      exact zM <| zM <| zE (oSb (k - 1)) <| zE (oXl el38 (k - 1) (0 : Nat)) <| zE (oC1 sh152) <| zE oEq <| zE oPa <| zZ
  refine pwp_cond rfl (fun h2 => ?_) (fun h2 => ?_)
  · have hm := r_made_step hk hv h2
    have hm0 := hm.1
    refine pwp_skip <| pwp_block <| kx [(5, (vin (k - 1)))] [] (zM <| zE (oSb (k - 1)) <| zM <| zZ) ?_
    exact ⟨(k - 1), wk, ⟨by omega, hm.2⟩, (by first | omega | (dsimp only; omega))⟩
  · refine pwp_exit <| pwp_seq <| kx [] [(0, some (bx (encI (RInt.mk (neg && decide (0 < ((k : Nat) : Int))) (List.take k l)))))] ?_ ?_
    · refine zM <| zE (oV (vb neg) (mv_ok (by kernel_rfl))) <| ?_
      rcases hb3 : neg with _ | _
      · exact zK <| zK <| zE oPf <| zE (oBe el38) <| zM <| zM <| zE (e_slc (l := 0) (h := k) (kl := .i64) (kh := .i64) (es' := List.map enc_u32 (List.take k l)) (by exact rfl) el38 (by exact rfl) (by exact rfl) (by exact rfl) (Nat.zero_le _) (by simp only [List.length_map]; omega) (by rw [List.drop_zero, List.map_take])) <| zE (e_appe (by exact rfl) el38 ze152 (by kernel_rfl) by152 (by exact rfl) (by exact rfl) (by simp only [List.length_map, List.length_take, List.length_drop, List.length_append, List.length_cons, List.length_nil, maxLen]; omega) (by simp only [List.length_map, List.length_take, List.length_drop, List.length_append, List.length_cons, List.length_nil]; omega)) <| zE (oBd pl40 ze40 zo40) <| zT (oSt sh40) <| zZ
      · exact zM <| zE oGt <| zE oPa <| zE (oBe el38) <| zM <| zM <| zE (e_slc (l := 0) (h := k) (kl := .i64) (kh := .i64) (es' := List.map enc_u32 (List.take k l)) (by exact rfl) el38 (by exact rfl) (by exact rfl) (by exact rfl) (Nat.zero_le _) (by simp only [List.length_map]; omega) (by rw [List.drop_zero, List.map_take])) <| zE (e_appe (by exact rfl) el38 ze152 (by kernel_rfl) by152 (by exact rfl) (by exact rfl) (by simp only [List.length_map, List.length_take, List.length_drop, List.length_append, List.length_cons, List.length_nil, maxLen]; omega) (by simp only [List.length_map, List.length_take, List.length_drop, List.length_append, List.length_cons, List.length_nil]; omega)) <| zE (oBd pl40 ze40 zo40) <| zT (oSt sh40) <| zZ
    refine pwp_ret ⟨_, (res_a (cs := (bx (encI (RInt.mk (neg && decide (0 < ((k : Nat) : Int))) (List.take k l))))) (d := (encI (RInt.mk (neg && decide (0 < ((k : Nat) : Int))) (List.take k l)))) rfl rfl sh40 rfl rfl .nil), ?_⟩
    rw [r_made_end hd hk hv h2]; rfl
theorem r_valid (x : RInt) (hb : x.gs.length ≤ 17592186044416) : Takes Tryz.prog 25 [(encI x)] (.val (.bool ((validI x)))) := by
  refine fn_intro Tryz.func25 rfl cb25 rfl ?_
  show PWp _ _ _ _ ⟨[(0, (.d (encI x)))], []⟩
  refine pwp_seq <| kx [(1, (.ref 0 0))] [(0, some (bx (encI x)))] (zN (oBx 0) <| zM <| zZ) ?_
  refine pwp_seq <| kx [(3, (vin x.gs.length))] [] (zE (oFr fo40_1) <| zR (oL1 sh38) <| zE (oLm el38) <| zM <| zZ) ?_
  refine pwp_seq <| pwp_seq <| kx [(4, (vin 0))] [] (zM <| zZ) ?_
  refine pwp_block <| pwp_loop (α := Nat) (fun i => ⟨[(1, (.ref 0 0)), (3, (vin x.gs.length)), (4, (vin i))], [(0, some (bx (encI x)))]⟩) (fun i => i ≤ x.gs.length ∧ Dig (x.gs.take i)) (fun i => x.gs.length - i) 0 wk ⟨Nat.zero_le _, by rw [List.take_zero]; exact dig_nil⟩ ?_
  rintro i ⟨hi, hd⟩
  refine pwp_seq <| pwp_seq <| kx [(10, (vb (decide (((i : Nat) : Int) < ((x.gs.length : Nat) : Int)))))] [] (zM <| zM <| zE oLt <| zZ) ?_
  refine pwp_cond rfl (fun h1 => ?_) (fun h1 => ?_)
  · replace h1 := of_decide_eq_true h1
    refine pwp_skip <| pwp_seq <| pwp_block <| pwp_seq <| kx [(18, (vb (decide (1000000000 ≤ (((x.gs.getD i 0) : Nat) : Int)))))] [] (zE (oFr fo40_1) <| zR (oL1 sh38) <| zM <| zE (oXl el38 i (0 : Nat)) <| zE (oC1 sh152) <| zE oGe <| zZ) ?_
    refine pwp_cond rfl (fun h2 => ?_) (fun h2 => ?_)
    · replace h2 := of_decide_eq_true h2
      refine pwp_seq <| kx [(2, (vb false))] [] (zM <| zZ) ?_
      refine pwp_ret ⟨_, (.tmp (d := (.val (.bool (false)))) rfl .nil), ?_⟩
      rw [validI_big (i := i) (by omega) (by omega)]; rfl
    · replace h2 := of_decide_eq_false h2
      refine pwp_skip <| kx [(4, (vin (i + 1)))] [] (zM <| zE (oAd (i + 1)) <| zM <| zZ) ?_
      exact ⟨(i + 1), wk, ⟨by omega, dig_take_succ (by omega) hd (by omega)⟩, (by first | omega | (dsimp only; omega))⟩
  · replace h1 := of_decide_eq_false h1
    have hie : i = x.gs.length := by omega
    rw [hie, List.take_length] at hd
    refine pwp_exit <| pwp_seq <| pwp_seq <| kx [(20, (vb (((x.gs.length : Nat) : Int) == 0)))] [] (zM <| zE oEq <| zZ) ?_
    refine pwp_cond (b := (((x.gs.length : Nat) : Int) == 0)) rfl (fun h3 => ?_) (fun h3 => ?_)
    · replace h3 := eq_of_beq h3
      refine pwp_seq <| kx [(2, (vb (!x.neg)))] [] (zE (oFr fo40_0) <| zR (oL1 sh4) <| zE oNt <| zM <| zZ) ?_
      refine pwp_ret ⟨_, (.tmp (d := (.val (.bool (!x.neg)))) rfl .nil), ?_⟩
      rw [validI_nil (by omega)]; rfl
    · replace h3 := ne_of_beq_false h3
      refine pwp_skip <| pwp_seq <| kx [(2, (vb ((((x.gs.getD (x.gs.length - 1) 0) : Nat) : Int) != 0)))] [] (zE (oFr fo40_1) <| zR (oL1 sh38) <| zM <| zE (oSb (x.gs.length - 1)) <| zE (oXl el38 (x.gs.length - 1) (0 : Nat)) <| zE (oC1 sh152) <| zE oNe <| zM <| zZ) ?_
      refine pwp_ret ⟨_, (.tmp (d := (.val (.bool (((((x.gs.getD (x.gs.length - 1) 0) : Nat) : Int) != 0))))) rfl .nil), ?_⟩
      rw [validI_dig hd (by omega)]; rfl
theorem r_value (x : RInt) (hb : x.gs.length ≤ 17592186044416) : Takes Tryz.prog 133 [(encI x)] (encI (ofZ (toZ x))) := by
  refine fn_intro Tryz.func133 rfl cb133 rfl ?_
  show PWp _ _ _ _ ⟨[(0, (.d (encI x)))], []⟩
  refine pwp_seq <| kx [(1, (.ref 0 0)), (2, (.ref 1 0))] [(0, some (bx (encI x))), (1, some (bx (encI (RInt.mk false []))))] (zN (oBx 0) <| zN (oAl 1 ze40 zo40) <| zZ) ?_
  refine pwp_seq <| pwp_seq <| kx [(5, (vb (!(validI x))))] [] (zR (oLa sh40) <| zE (oCl (r_valid x (by omega))) <| zE oNt <| zZ) ?_
  refine pwp_cond (b := !(validI x)) rfl (fun h1 => ?_) (fun h1 => ?_)
  · refine pwp_seq <| kx [] [(1, some (bx (encI (RInt.mk false []))))] (zE (oBd pl40 ze40 zo40) <| zT (oSt sh40) <| zZ) ?_
    refine pwp_ret ⟨_, (res_a (cs := (bx (encI (RInt.mk false [])))) (d := (encI (RInt.mk false []))) rfl rfl sh40 rfl rfl .nil), ?_⟩
    rw [toZ_bad (by rw [Bool.not_eq_true'] at h1; exact h1), ofZ_zero]; rfl
  · refine pwp_skip <| pwp_seq <| kd [] [(1, some (bx (encI (RInt.mk x.neg x.gs))))] mo (wE (oFr fo40_0) <| wR (oL1 sh4) <| wE (oBe el38) <| wE (oFr fo40_1) <| wR (oL1 sh38) <| wE (e_appe (by exact rfl) el38 ze152 (by kernel_rfl) by152 (by exact rfl) (by exact rfl) (by simp only [List.length_map, List.length_take, List.length_drop, List.length_append, List.length_cons, List.length_nil, maxLen]; omega) (by simp only [List.length_map, List.length_take, List.length_drop, List.length_append, List.length_cons, List.length_nil]; omega)) <| wE (oBd pl40 ze40 zo40) <| wT (oSt sh40) <| wZ) ?_
    refine pwp_ret ⟨_, (res_a (cs := (bx (encI (RInt.mk x.neg x.gs)))) (d := (encI (RInt.mk x.neg x.gs))) rfl rfl sh40 rfl rfl .nil), ?_⟩
    rw [ofZ_toZ (by simpa using h1)]; rfl
theorem r_of (n : Int) (hlo : -9223372036854775808 ≤ n) (hhi : n ≤ 9223372036854775807) : Takes Tryz.prog 27 [(.val (.int .i64 (n)))] (encI (ofZ n)) := by
  refine fn_intro Tryz.func27 rfl cb27 rfl ?_
  show PWp _ _ _ _ ⟨[(0, (vi n))], []⟩
  refine pwp_seq <| kx [(2, (.ref 0 0))] [(0, some (bx (encI (RInt.mk false []))))] (zN (oAl 0 ze40 zo40) <| zZ) ?_
  refine pwp_seq <| kx [(3, (vqn ((n % 18446744073709551616).toNat)))] [] (zM <| zE (oCv un3 in154 ((n % 18446744073709551616).toNat) (hr := by exact (conv_u64 _))) <| zM <| zZ) ?_
  refine pwp_seq <| pwp_seq <| kx [(8, (vb (decide (n < 0))))] [] (zM <| zE oLt <| zZ) ?_
  refine pwp_cond (b := decide (n < 0)) rfl (fun h1 => ?_) (fun h1 => ?_)
  · replace h1 := of_decide_eq_true h1
    refine kx [(3, (vqn n.natAbs))] [] (zM <| zE (zAd (n + 1)) <| zE (oNg (-(n + 1))) <| zE (oCv un3 in154 ((-n - 1).toNat) (hr := by exact (wu64 (by omega) (by omega) (by omega)))) <| zE (oAd n.natAbs) <| zM <| zZ) ?_
    refine pwp_seq <| kx [(4, (.own 1 152 1 0))] [(1, some (bm enc_u32 []))] (zN (oBo 1 el38 ze152 zo152) <| zM <| zZ) ?_
    refine pwp_seq <| pwp_block <| pwp_loop (α := List Nat × Nat) (fun (o, m) => ⟨[(0, (vi n)), (2, (.ref 0 0)), (3, (vqn m)), (4, (.own 1 152 1 o.length))], [(0, some (bx (encI (RInt.mk false [])))), (1, some (bm enc_u32 o))]⟩) (fun (o, m) => m ≤ 9223372036854775808 ∧ o ++ ofNat m = ofNat n.natAbs) (fun (o, m) => m) ([], n.natAbs) wk ⟨by omega, by rw [List.nil_append]⟩ ?_
    rintro ⟨o, m⟩ ⟨hm, hg⟩
    have hl := split_len hg (by omega)
    refine pwp_seq <| pwp_seq <| kx [(16, (vb (decide (0 < ((m : Nat) : Int)))))] [] (zM <| zE oGt <| zZ) ?_
    refine pwp_cond (b := decide (0 < ((m : Nat) : Int))) rfl (fun h2 => ?_) (fun h2 => ?_)
    · replace h2 := of_decide_eq_true h2
      refine pwp_skip <| pwp_block <| pwp_seq <| kf [(4, (.own 1 152 1 ((o ++ [(m % 1000000000)]).length)))] [(1, some (bm enc_u32 (o ++ [(m % 1000000000)])))] (zM <| zM <| zE (oRe (m % 1000000000)) <| zE (oCv un154 in152 (m % 1000000000)) <| zE (oBs el38 ze152 zo152) <| zA enc_u32 o [(m % 1000000000)] rfl el38 ze152 by152 <| zM <| zF) ?_
      refine kx [(3, (vqn (m / 1000000000)))] [] (zM <| zE (oQu (m / 1000000000)) <| zM <| zZ) ?_
      exact ⟨(o ++ [m % 1000000000], m / 1000000000), wk, ⟨by omega, split_step hg h2⟩, (by first | omega | (dsimp only; omega))⟩
    · replace h2 := of_decide_eq_false h2
      have hdo : Dig o := split_dig hg h2
      have hvo := split_val hg h2
      refine pwp_exit <| pwp_seq <| pwp_sim (publish (t := 4) (k := 1) (es := List.map enc_u32 o) rfl rfl (pub_cells _ _ (fun _ => rfl)) (map_len _ _ rfl) (pub_take _ _ (fun _ => rfl) rfl)) ?_
      refine kx [] [(0, some (bx (encI (mkI (decide (n < 0)) (val o)))))] (zM <| zE oLt <| zM <| zE (oCl (r_made (decide (n < 0)) o hdo (by omega))) <| zT (oSt sh40) <| zZ) ?_
      refine pwp_ret ⟨_, (res_a (cs := (bx (encI (mkI (decide (n < 0)) (val o))))) (d := (encI (mkI (decide (n < 0)) (val o)))) rfl rfl sh40 rfl rfl .nil), ?_⟩
      rw [hvo]; rfl
  · replace h1 := of_decide_eq_false h1
    rw [show (n % 18446744073709551616).toNat = n.natAbs from by omega]
    refine pwp_skip <| pwp_seq <| kx [(3, (vqn n.natAbs)), (4, (.own 2 152 1 0))] [(2, some (bm enc_u32 []))] (zN (oBo 2 el38 ze152 zo152) <| zM <| zZ) ?_
    refine pwp_seq <| pwp_block <| pwp_loop (α := List Nat × Nat) (fun (o, m) => ⟨[(0, (vi n)), (2, (.ref 0 0)), (3, (vqn m)), (4, (.own 2 152 1 o.length))], [(0, some (bx (encI (RInt.mk false [])))), (2, some (bm enc_u32 o))]⟩) (fun (o, m) => m ≤ 9223372036854775808 ∧ o ++ ofNat m = ofNat n.natAbs) (fun (o, m) => m) ([], n.natAbs) wk ⟨by omega, by rw [List.nil_append]⟩ ?_
    rintro ⟨o, m⟩ ⟨hm, hg⟩
    have hl := split_len hg (by omega)
    refine pwp_seq <| pwp_seq <| kx [(16, (vb (decide (0 < ((m : Nat) : Int)))))] [] (zM <| zE oGt <| zZ) ?_
    refine pwp_cond (b := decide (0 < ((m : Nat) : Int))) rfl (fun h3 => ?_) (fun h3 => ?_)
    · replace h3 := of_decide_eq_true h3
      refine pwp_skip <| pwp_block <| pwp_seq <| kf [(4, (.own 2 152 1 ((o ++ [(m % 1000000000)]).length)))] [(2, some (bm enc_u32 (o ++ [(m % 1000000000)])))] (zM <| zM <| zE (oRe (m % 1000000000)) <| zE (oCv un154 in152 (m % 1000000000)) <| zE (oBs el38 ze152 zo152) <| zA enc_u32 o [(m % 1000000000)] rfl el38 ze152 by152 <| zM <| zF) ?_
      refine kx [(3, (vqn (m / 1000000000)))] [] (zM <| zE (oQu (m / 1000000000)) <| zM <| zZ) ?_
      exact ⟨(o ++ [m % 1000000000], m / 1000000000), wk, ⟨by omega, split_step hg h3⟩, (by first | omega | (dsimp only; omega))⟩
    · replace h3 := of_decide_eq_false h3
      have hdo : Dig o := split_dig hg h3
      have hvo := split_val hg h3
      refine pwp_exit <| pwp_seq <| pwp_sim (publish (t := 4) (k := 2) (es := List.map enc_u32 o) rfl rfl (pub_cells _ _ (fun _ => rfl)) (map_len _ _ rfl) (pub_take _ _ (fun _ => rfl) rfl)) ?_
      refine kx [] [(0, some (bx (encI (mkI (decide (n < 0)) (val o)))))] (zM <| zE oLt <| zM <| zE (oCl (r_made (decide (n < 0)) o hdo (by omega))) <| zT (oSt sh40) <| zZ) ?_
      refine pwp_ret ⟨_, (res_a (cs := (bx (encI (mkI (decide (n < 0)) (val o))))) (d := (encI (mkI (decide (n < 0)) (val o)))) rfl rfl sh40 rfl rfl .nil), ?_⟩
      rw [hvo]; rfl
theorem r_size (a b : List Nat) (ha : Cano a) (hb : Cano b) (hla : a.length ≤ 17592186044416) (hlb : b.length ≤ 17592186044416) : Takes Tryz.prog 174 [(.sl 152 1 (List.map enc_u32 a)), (.sl 152 1 (List.map enc_u32 b))] (.val (.int .i64 ((cmpI ((val a : Nat) : Int) ((val b : Nat) : Int))))) := by
  refine fn_intro Tryz.func174 rfl cb174 rfl ?_
  show PWp _ _ _ _ ⟨[(0, (vl 152 1 enc_u32 a)), (1, (vl 152 1 enc_u32 b))], []⟩
  refine pwp_seq <| kx [] [] (zM <| zZ) ?_
  refine pwp_seq <| pwp_seq <| kx [(10, (vb (((a.length : Nat) : Int) != ((b.length : Nat) : Int))))] [] (zM <| zE (oLm el38) <| zM <| zE (oLm el38) <| zE oNe <| zZ) ?_
  refine pwp_cond rfl (fun h1 => ?_) (fun h1 => ?_)
  · replace h1 := bne_iff_ne.1 h1
    refine pwp_seq <| pwp_seq <| kx [(15, (vb (decide (((a.length : Nat) : Int) < ((b.length : Nat) : Int)))))] [] (zM <| zE (oLm el38) <| zM <| zE (oLm el38) <| zE oLt <| zZ) ?_
    refine pwp_cond rfl (fun h2 => ?_) (fun h2 => ?_)
    · replace h2 := of_decide_eq_true h2
      refine pwp_seq <| kx [(4, (vi (-1)))] [] (zM <| zZ) ?_
      refine pwp_ret ⟨_, (.tmp (d := (.val (.int .i64 (-1)))) rfl .nil), ?_⟩
      rw [← cmpI_len ha hb h1]; unfold cmpI; rw [if_pos (by omega)]; rfl
    · replace h2 := of_decide_eq_false h2
      refine pwp_skip <| pwp_seq <| kx [(4, (vin 1))] [] (zM <| zZ) ?_
      refine pwp_ret ⟨_, (.tmp (d := (.val (.int .i64 (1)))) rfl .nil), ?_⟩
      rw [← cmpI_len ha hb h1, cmpI_gt (by omega)]; rfl
  · replace h1 := bne_eq_false_iff_eq.1 h1
    have hl : a.length = b.length := by omega
    refine pwp_skip <| pwp_seq <| pwp_seq <| kx [(5, (vi (((a.length : Nat) : Int) - 1)))] [] (zM <| zE (oLm el38) <| zE (zSb (((a.length : Nat) : Int) - 1)) <| zM <| zZ) ?_
    refine pwp_block <| pwp_loop (α := Nat) (fun k => ⟨[(0, (vl 152 1 enc_u32 a)), (1, (vl 152 1 enc_u32 b)), (5, (vi (((k : Nat) : Int) - 1)))], []⟩) (fun k => k ≤ a.length ∧ val (a.drop k) = val (b.drop k)) (fun k => k) a.length wk ⟨Nat.le_refl _, by rw [List.drop_length, hl, List.drop_length]⟩ ?_
    rintro k ⟨hk, he⟩
    refine pwp_seq <| pwp_seq <| kx [(20, (vb (decide (0 ≤ (((k : Nat) : Int) - 1)))))] [] (zM <| zE oGe <| zZ) ?_
    refine pwp_cond (b := decide (0 ≤ (((k : Nat) : Int) - 1))) rfl (fun h3 => ?_) (fun h3 => ?_)
    · replace h3 := of_decide_eq_true h3
      obtain ⟨i, rfl⟩ : ∃ i, k = i + 1 := ⟨k - 1, by omega⟩
      rw [show (((i + 1 : Nat) : Int) - 1) = ((i : Nat) : Int) from by omega]
      have ht := cmpI_top ha.1 hb.1 hl (j := a.length - 1 - i) (by omega) (by rw [show a.length - (a.length - 1 - i) = i + 1 by omega]; exact he)
      rw [show a.length - 1 - (a.length - 1 - i) = i by omega] at ht
      refine pwp_skip <| pwp_seq <| pwp_block <| pwp_seq <| pwp_seq <| kd [(5, (vin i)), (31, (vb (decide ((((a.getD i 0) : Nat) : Int) < (((b.getD i 0) : Nat) : Int)))))] [] mo (wM <| wM <| wE (oXl el38 i (0 : Nat)) <| wE (oC1 sh152) <| wM <| wM <| wE (oXl el38 i (0 : Nat)) <| wE (oC1 sh152) <| wE oLt <| wZ) ?_
      refine pwp_cond rfl (fun h4 => ?_) (fun h4 => ?_)
      · replace h4 := of_decide_eq_true h4
        refine pwp_seq <| kx [(4, (vi (-1)))] [] (zM <| zZ) ?_
        refine pwp_ret ⟨_, (.tmp (d := (.val (.int .i64 (-1)))) rfl .nil), ?_⟩
        rw [← ht (by omega)]; unfold cmpI; rw [if_pos (by omega)]; rfl
      · replace h4 := of_decide_eq_false h4
        refine pwp_skip <| pwp_seq <| kd [(40, (vb (decide ((((b.getD i 0) : Nat) : Int) < (((a.getD i 0) : Nat) : Int)))))] [] mo (wM <| wM <| wE (oXl el38 i (0 : Nat)) <| wE (oC1 sh152) <| wM <| wM <| wE (oXl el38 i (0 : Nat)) <| wE (oC1 sh152) <| wE oGt <| wZ) ?_
        refine pwp_cond rfl (fun h5 => ?_) (fun h5 => ?_)
        · replace h5 := of_decide_eq_true h5
          refine pwp_seq <| kx [(4, (vin 1))] [] (zM <| zZ) ?_
          refine pwp_ret ⟨_, (.tmp (d := (.val (.int .i64 (1)))) rfl .nil), ?_⟩
          rw [← ht (by omega), cmpI_gt (by omega)]; rfl
        · replace h5 := of_decide_eq_false h5
          refine pwp_skip <| kx [(5, (vi (((i : Nat) : Int) - 1)))] [] (zM <| zE (zSb (((i : Nat) : Int) - 1)) <| zM <| zZ) ?_
          exact ⟨i, wk, ⟨by omega, by rw [val_drop_one a i, val_drop_one b i, he]; omega⟩, (by first | omega | (dsimp only; omega))⟩
    · replace h3 := of_decide_eq_false h3
      obtain rfl : k = 0 := by omega
      rw [List.drop_zero, List.drop_zero] at he
      refine pwp_exit <| pwp_seq <| kx [(4, (vin 0))] [] (zM <| zZ) ?_
      refine pwp_ret ⟨_, (.tmp (d := (.val (.int .i64 (0)))) rfl .nil), ?_⟩
      rw [cmpI_same he]; rfl
theorem r_plus (a b : List Nat) (hda : Dig a) (hdb : Dig b) (hla : a.length ≤ 8796093022208) (hlb : b.length ≤ 8796093022208) : Takes Tryz.prog 173 [(.sl 152 1 (List.map enc_u32 a)), (.sl 152 1 (List.map enc_u32 b))] (.sl 152 1 (List.map enc_u32 (ofNat (val a + val b)))) := by
  refine fn_intro Tryz.func173 rfl cb173 rfl ?_
  show PWp _ _ _ _ ⟨[(0, (vl 152 1 enc_u32 a)), (1, (vl 152 1 enc_u32 b))], []⟩
  refine pwp_seq <| kx [] [] (zE (oNl 152 1) <| zZ) ?_
  refine pwp_seq <| kx [(5, (.own 0 152 1 0))] [(0, some (bm enc_u32 []))] (zN (oBo 0 el38 ze152 zo152) <| zM <| zZ) ?_
  refine pwp_seq <| kx [(6, (vqn 0))] [] (zM <| zZ) ?_
  refine pwp_seq <| pwp_seq <| kx [(7, (vin 0))] [] (zM <| zZ) ?_
  refine pwp_block <| pwp_loop (α := Nat × List Nat × Nat) (fun (i, o, c) => ⟨[(0, (vl 152 1 enc_u32 a)), (1, (vl 152 1 enc_u32 b)), (5, (.own 0 152 1 o.length)), (6, (vqn c)), (7, (vin i))], [(0, some (bm enc_u32 o))]⟩) (fun (i, o, c) => o.length = i ∧ Dig o ∧ i ≤ max a.length b.length ∧ c ≤ 1 ∧ val o + pw i * c = val (a.take i) + val (b.take i)) (fun (i, o, c) => max a.length b.length - i) (0, [], 0) wk ⟨rfl, dig_nil, Nat.zero_le _, Nat.zero_le _, by simp [val]⟩ ?_
  rintro ⟨i, o, c⟩ ⟨hl, hd, hi, hc, hv⟩
  have hai := hda.getD i
  have hbi := hdb.getD i
  refine pwp_seq <| pwp_seq <| kx [(19, (vb (decide (((i : Nat) : Int) < ((a.length : Nat) : Int)) || decide (((i : Nat) : Int) < ((b.length : Nat) : Int)))))] [] ?_ ?_
  · refine zM <| zM <| zE (oLm el38) <| zE oLt <| zE (oV (vb (decide (((i : Nat) : Int) < ((a.length : Nat) : Int)))) (mv_ok (by kernel_rfl))) <| ?_
    rcases hb1 : (decide (((i : Nat) : Int) < ((a.length : Nat) : Int))) with _ | _
    · replace hb1 := of_decide_eq_false hb1
      exact zM <| zM <| zE (oLm el38) <| zE oLt <| zE oPo <| zZ
    · replace hb1 := of_decide_eq_true hb1
      exact zK <| zK <| zK <| zK <| zE oPt <| zZ
  refine pwp_cond rfl (fun h2 => ?_) (fun h2 => ?_)
  · rw [Bool.or_eq_true, decide_eq_true_eq, decide_eq_true_eq] at h2
    refine pwp_skip <| pwp_seq <| pwp_block <| pwp_seq <| kx [(8, (vqn (((a.getD i 0) + (b.getD i 0)) + c)))] [] (zM <| zM <| zE (oCl (r_group a i (by first | assumption | exact ofNat_dig _ | exact (ofNat_can _).1 | exact (grpI_can _).1))) <| zM <| zM <| zE (oCl (r_group b i (by first | assumption | exact ofNat_dig _ | exact (ofNat_can _).1 | exact (grpI_can _).1))) <| zE (oAd ((a.getD i 0) + (b.getD i 0))) <| zM <| zE (oAd (((a.getD i 0) + (b.getD i 0)) + c)) <| zM <| zZ) ?_
    refine pwp_seq <| kf [(5, (.own 0 152 1 ((o ++ [((((a.getD i 0) + (b.getD i 0)) + c) % 1000000000)]).length)))] [(0, some (bm enc_u32 (o ++ [((((a.getD i 0) + (b.getD i 0)) + c) % 1000000000)])))] (zM <| zM <| zE (oRe ((((a.getD i 0) + (b.getD i 0)) + c) % 1000000000)) <| zE (oCv un154 in152 ((((a.getD i 0) + (b.getD i 0)) + c) % 1000000000)) <| zE (oBs el38 ze152 zo152) <| zA enc_u32 o [((((a.getD i 0) + (b.getD i 0)) + c) % 1000000000)] rfl el38 ze152 by152 <| zM <| zF) ?_
    refine kx [(6, (vqn ((((a.getD i 0) + (b.getD i 0)) + c) / 1000000000)))] [] (zM <| zE (oQu ((((a.getD i 0) + (b.getD i 0)) + c) / 1000000000)) <| zM <| zZ) ?_
    refine kx [(7, (vin (i + 1)))] [] (zM <| zE (oAd (i + 1)) <| zM <| zZ) ?_
    exact ⟨(i + 1, o ++ [(a.getD i 0 + b.getD i 0 + c) % 1000000000], (a.getD i 0 + b.getD i 0 + c) / 1000000000), wk, ⟨by simp [hl], dig_push hd (Nat.mod_lt _ (by decide)), by omega, by omega, rplus_step hl hv rfl⟩, (by first | omega | (dsimp only; omega))⟩
  · rw [Bool.or_eq_false_iff, decide_eq_false_iff_not, decide_eq_false_iff_not] at h2
    rw [take_all (by omega), take_all (by omega)] at hv
    have hp := val_push (c := c) hl
    refine pwp_exit <| pwp_seq <| kf [(4, (vl 152 1 enc_u32 (ofNat (val (o ++ [c]))))), (5, .junk)] [(0, none)] (zM <| zM <| zE (oCv un154 in152 c) <| zE (oBs el38 ze152 zo152) <| zAQ enc_u32 o [c] rfl el38 ze152 by152 <| zE (oCl (r_made false (o ++ [c]) (dig_push hd (by omega)) (by simp only [List.length_append, List.length_cons, List.length_nil]; omega))) <| zE (oF1 ft40_1 sh38) <| zM <| zF) ?_
    refine pwp_ret ⟨_, (.tmp (d := (.sl 152 1 (List.map enc_u32 (ofNat (val (o ++ [c])))))) rfl .nil), ?_⟩
    rw [hp, hv]; rfl
theorem r_minus (a b : List Nat) (hda : Dig a) (hdb : Dig b) (hba : val b ≤ val a) (hla : a.length ≤ 8796093022208) : Takes Tryz.prog 175 [(.sl 152 1 (List.map enc_u32 a)), (.sl 152 1 (List.map enc_u32 b))] (.sl 152 1 (List.map enc_u32 (ofNat (val a - val b)))) := by
  refine fn_intro Tryz.func175 rfl cb175 rfl ?_
  show PWp _ _ _ _ ⟨[(0, (vl 152 1 enc_u32 a)), (1, (vl 152 1 enc_u32 b))], []⟩
  refine pwp_seq <| kx [] [] (zE (oNl 152 1) <| zZ) ?_
  refine pwp_seq <| kx [(5, (.own 0 152 1 0))] [(0, some (bm enc_u32 []))] (zN (oBo 0 el38 ze152 zo152) <| zM <| zZ) ?_
  refine pwp_seq <| kx [(6, (vqn 0))] [] (zM <| zZ) ?_
  refine pwp_seq <| pwp_seq <| kx [(7, (vin 0))] [] (zM <| zZ) ?_
  refine pwp_block <| pwp_loop (α := Nat × List Nat × Nat) (fun (i, o, c) => ⟨[(0, (vl 152 1 enc_u32 a)), (1, (vl 152 1 enc_u32 b)), (5, (.own 0 152 1 o.length)), (6, (vqn c)), (7, (vin i))], [(0, some (bm enc_u32 o))]⟩) (fun (i, o, c) => o.length = i ∧ Dig o ∧ i ≤ a.length ∧ c ≤ 1 ∧ val o + val (b.take i) = val (a.take i) + pw i * c) (fun (i, o, c) => a.length - i) (0, [], 0) wk ⟨rfl, dig_nil, Nat.zero_le _, Nat.zero_le _, by simp [val]⟩ ?_
  rintro ⟨i, o, c⟩ ⟨hl, hd, hi, hc, hv⟩
  have hai := hda.getD i
  have hbi := hdb.getD i
  refine pwp_seq <| pwp_seq <| kx [(13, (vb (decide (((i : Nat) : Int) < ((a.length : Nat) : Int)))))] [] (zM <| zM <| zE (oLm el38) <| zE oLt <| zZ) ?_
  refine pwp_cond rfl (fun h1 => ?_) (fun h1 => ?_)
  · replace h1 := of_decide_eq_true h1
    refine pwp_skip <| pwp_seq <| pwp_block <| pwp_seq <| kx [(8, (vqn (((1000000000 + (a.getD i 0)) - (b.getD i 0)) - c)))] [] (zM <| zM <| zE (oCl (r_group a i (by first | assumption | exact ofNat_dig _ | exact (ofNat_can _).1 | exact (grpI_can _).1))) <| zE (oAd (1000000000 + (a.getD i 0))) <| zM <| zM <| zE (oCl (r_group b i (by first | assumption | exact ofNat_dig _ | exact (ofNat_can _).1 | exact (grpI_can _).1))) <| zE (oSb ((1000000000 + (a.getD i 0)) - (b.getD i 0))) <| zM <| zE (oSb (((1000000000 + (a.getD i 0)) - (b.getD i 0)) - c)) <| zM <| zZ) ?_
    refine pwp_seq <| kf [(5, (.own 0 152 1 ((o ++ [((((1000000000 + (a.getD i 0)) - (b.getD i 0)) - c) % 1000000000)]).length)))] [(0, some (bm enc_u32 (o ++ [((((1000000000 + (a.getD i 0)) - (b.getD i 0)) - c) % 1000000000)])))] (zM <| zM <| zE (oRe ((((1000000000 + (a.getD i 0)) - (b.getD i 0)) - c) % 1000000000)) <| zE (oCv un154 in152 ((((1000000000 + (a.getD i 0)) - (b.getD i 0)) - c) % 1000000000)) <| zE (oBs el38 ze152 zo152) <| zA enc_u32 o [((((1000000000 + (a.getD i 0)) - (b.getD i 0)) - c) % 1000000000)] rfl el38 ze152 by152 <| zM <| zF) ?_
    refine kx [(6, (vqn (1 - ((((1000000000 + (a.getD i 0)) - (b.getD i 0)) - c) / 1000000000))))] [] (zM <| zE (oQu ((((1000000000 + (a.getD i 0)) - (b.getD i 0)) - c) / 1000000000)) <| zE (oSb (1 - ((((1000000000 + (a.getD i 0)) - (b.getD i 0)) - c) / 1000000000))) <| zM <| zZ) ?_
    refine kx [(7, (vin (i + 1)))] [] (zM <| zE (oAd (i + 1)) <| zM <| zZ) ?_
    exact ⟨(i + 1, o ++ [(1000000000 + a.getD i 0 - b.getD i 0 - c) % 1000000000], 1 - (1000000000 + a.getD i 0 - b.getD i 0 - c) / 1000000000), wk, ⟨by simp [hl], dig_push hd (Nat.mod_lt _ (by decide)), by omega, by omega, rminus_step hl hv (by omega) (by omega)⟩, (by first | omega | (dsimp only; omega))⟩
  · replace h1 := of_decide_eq_false h1
    have hie : i = a.length := by omega
    refine pwp_exit <| pwp_seq <| pwp_sim (publish (t := 5) (k := 0) (es := List.map enc_u32 o) rfl rfl (pub_cells _ _ (fun _ => rfl)) (map_len _ _ rfl) (pub_take _ _ (fun _ => rfl) rfl)) ?_
    refine kx [(4, (vl 152 1 enc_u32 (ofNat (val o))))] [] (zM <| zE (oCl (r_made false o hd (by omega))) <| zE (oF1 ft40_1 sh38) <| zM <| zZ) ?_
    refine pwp_ret ⟨_, (.tmp (d := (.sl 152 1 (List.map enc_u32 (ofNat (val o))))) rfl .nil), ?_⟩
    rw [rminus_end hda hdb hd hie hl hba hv]; rfl
theorem r_scaled (a : List Nat) (d : Nat) (hda : Dig a) (hd1 : d ≤ 1000000000) (hla : a.length ≤ 8796093022208) : Takes Tryz.prog 190 [(.sl 152 1 (List.map enc_u32 a)), (.val (.int .u64 (((d : Nat) : Int))))] (.sl 152 1 (List.map enc_u32 (ofNat (val a * d)))) := by
  refine fn_intro Tryz.func190 rfl cb190 rfl ?_
  show PWp _ _ _ _ ⟨[(0, (vl 152 1 enc_u32 a)), (1, (vqn d))], []⟩
  refine pwp_seq <| kx [] [] (zE (oNl 152 1) <| zZ) ?_
  refine pwp_seq <| kx [(5, (.own 0 152 1 0))] [(0, some (bm enc_u32 []))] (zN (oBo 0 el38 ze152 zo152) <| zM <| zZ) ?_
  refine pwp_seq <| kx [(6, (vqn 0))] [] (zM <| zZ) ?_
  refine pwp_seq <| pwp_seq <| kx [(7, (vin 0))] [] (zM <| zZ) ?_
  refine pwp_block <| pwp_loop (α := Nat × List Nat × Nat) (fun (i, o, c) => ⟨[(0, (vl 152 1 enc_u32 a)), (1, (vqn d)), (5, (.own 0 152 1 o.length)), (6, (vqn c)), (7, (vin i))], [(0, some (bm enc_u32 o))]⟩) (fun (i, o, c) => o.length = i ∧ Dig o ∧ i ≤ a.length ∧ c ≤ 999999999 ∧ val o + pw i * c = val (a.take i) * d) (fun (i, o, c) => a.length - i) (0, [], 0) wk ⟨rfl, dig_nil, Nat.zero_le _, Nat.zero_le _, by simp [val]⟩ ?_
  rintro ⟨i, o, c⟩ ⟨hl, hd, hi, hc, hv⟩
  have hai := hda.getD i
  have hpq : a.getD i 0 * d ≤ 999999999 * 1000000000 := Nat.mul_le_mul (by omega) hd1
  refine pwp_seq <| pwp_seq <| kx [(13, (vb (decide (((i : Nat) : Int) < ((a.length : Nat) : Int)))))] [] (zM <| zM <| zE (oLm el38) <| zE oLt <| zZ) ?_
  refine pwp_cond rfl (fun h1 => ?_) (fun h1 => ?_)
  · replace h1 := of_decide_eq_true h1
    refine pwp_skip <| pwp_seq <| pwp_block <| pwp_seq <| kx [(8, (vqn (((a.getD i 0) * d) + c)))] [] (zM <| zM <| zE (oXl el38 i (0 : Nat)) <| zE (oC1 sh152) <| zE (oCv un152 in154 (a.getD i 0)) <| zM <| zE (oMl ((a.getD i 0) * d)) <| zM <| zE (oAd (((a.getD i 0) * d) + c)) <| zM <| zZ) ?_
    refine pwp_seq <| kf [(5, (.own 0 152 1 ((o ++ [((((a.getD i 0) * d) + c) % 1000000000)]).length)))] [(0, some (bm enc_u32 (o ++ [((((a.getD i 0) * d) + c) % 1000000000)])))] (zM <| zM <| zE (oRe ((((a.getD i 0) * d) + c) % 1000000000)) <| zE (oCv un154 in152 ((((a.getD i 0) * d) + c) % 1000000000)) <| zE (oBs el38 ze152 zo152) <| zA enc_u32 o [((((a.getD i 0) * d) + c) % 1000000000)] rfl el38 ze152 by152 <| zM <| zF) ?_
    refine kx [(6, (vqn ((((a.getD i 0) * d) + c) / 1000000000)))] [] (zM <| zE (oQu ((((a.getD i 0) * d) + c) / 1000000000)) <| zM <| zZ) ?_
    refine kx [(7, (vin (i + 1)))] [] (zM <| zE (oAd (i + 1)) <| zM <| zZ) ?_
    exact ⟨(i + 1, o ++ [(a.getD i 0 * d + c) % 1000000000], (a.getD i 0 * d + c) / 1000000000), wk, ⟨by simp [hl], dig_push hd (Nat.mod_lt _ (by decide)), by omega, by omega, rscaled_step hl hv rfl⟩, (by first | omega | (dsimp only; omega))⟩
  · replace h1 := of_decide_eq_false h1
    have hie : i = a.length := by omega
    rw [take_all (by omega)] at hv
    have hp := val_push (c := c) hl
    refine pwp_exit <| pwp_seq <| kf [(4, (vl 152 1 enc_u32 (ofNat (val (o ++ [c]))))), (5, .junk)] [(0, none)] (zM <| zM <| zE (oCv un154 in152 c) <| zE (oBs el38 ze152 zo152) <| zAQ enc_u32 o [c] rfl el38 ze152 by152 <| zE (oCl (r_made false (o ++ [c]) (dig_push hd (by omega)) (by simp only [List.length_append, List.length_cons, List.length_nil]; omega))) <| zE (oF1 ft40_1 sh38) <| zM <| zF) ?_
    refine pwp_ret ⟨_, (.tmp (d := (.sl 152 1 (List.map enc_u32 (ofNat (val (o ++ [c])))))) rfl .nil), ?_⟩
    rw [hp, hv]; rfl
theorem r_shifted (a : List Nat) (d : Nat) (hda : Dig a) (hd1 : d < 1000000000) (hla : a.length ≤ 8796093022208) : Takes Tryz.prog 191 [(.sl 152 1 (List.map enc_u32 a)), (.val (.int .u32 (((d : Nat) : Int))))] (.sl 152 1 (List.map enc_u32 (ofNat (d + 1000000000 * val a)))) := by
  refine fn_intro Tryz.func191 rfl cb191 rfl ?_
  show PWp _ _ _ _ ⟨[(0, (vl 152 1 enc_u32 a)), (1, (vwn d))], []⟩
  refine pwp_seq <| kx [] [] (zE (oNl 152 1) <| zZ) ?_
  refine pwp_seq <| kf [(4, (vl 152 1 enc_u32 (ofNat (val ([d] ++ a)))))] [(0, none)] (zM <| zN (oBo 0 el38 ze152 zo152) <| zM <| zAQ enc_u32 [d] a rfl el38 ze152 by152 <| zE (oCl (r_made false ([d] ++ a) (dig_append.2 ⟨dig_cons.2 ⟨hd1, dig_nil⟩, hda⟩) (by simp only [List.length_append, List.length_cons, List.length_nil]; omega))) <| zE (oF1 ft40_1 sh38) <| zM <| zF) ?_
  refine pwp_ret ⟨_, (.tmp (d := (.sl 152 1 (List.map enc_u32 (ofNat (val ([d] ++ a)))))) rfl .nil), ?_⟩
  rfl
end Go.Proofs.YtbecgnplakngdaaGreat
namespace Go.Proofs.YtbecgnplakngdaaGreat
open Go.Fid
set_option maxRecDepth 4000
set_option linter.unusedVariables false
set_option linter.unusedSimpArgs false
theorem cb84 : callB Tryz.prog 84 = true := by kernel_rfl
theorem cb103 : callB Tryz.prog 103 = true := by kernel_rfl
theorem cb134 : callB Tryz.prog 134 = true := by kernel_rfl
theorem cb135 : callB Tryz.prog 135 = true := by kernel_rfl
theorem cb147 : callB Tryz.prog 147 = true := by kernel_rfl
theorem cb148 : callB Tryz.prog 148 = true := by kernel_rfl
theorem cb149 : callB Tryz.prog 149 = true := by kernel_rfl
theorem cb189 : callB Tryz.prog 189 = true := by kernel_rfl
theorem r_neg (x : RInt) (hx : x.gs.length ≤ 1099511627776) : Takes Tryz.prog 134 [(encI x)] (encI (ofZ (-toZ x))) := by
  have hvx := gs_val2 x
  refine fn_intro Tryz.func134 rfl cb134 rfl ?_
  show PWp _ _ _ _ ⟨[(0, (.d (encI x)))], []⟩
  refine pwp_seq <| kx [(1, (.ref 0 0)), (2, (.ref 1 0))] [(0, some (bx (encI x))), (1, some (bx (encI (RInt.mk false []))))] (zN (oBx 0) <| zN (oAl 1 ze40 zo40) <| zZ) ?_
  refine pwp_seq <| kx [] [(0, some (bx (encI (ofZ (toZ x)))))] (zR (oLa sh40) <| zE (oCl (r_value x (by omega))) <| zT (oSt sh40) <| zZ) ?_
  refine pwp_seq <| kx [] [(1, some (bx (encI (mkI (!((ofZ (toZ x)).neg)) (val (ofNat (Int.natAbs (toZ x))))))))] (zE (oFr fo40_0) <| zR (oL1 sh4) <| zE oNt <| zE (oFr fo40_1) <| zR (oL1 sh38) <| zE (oCl (r_made (!((ofZ (toZ x)).neg)) (ofNat (Int.natAbs (toZ x))) (by first | assumption | exact ofNat_dig _ | exact (ofNat_can _).1 | exact (grpI_can _).1) (by omega))) <| zT (oSt sh40) <| zZ) ?_
  refine pwp_ret ⟨_, (res_a (cs := (bx (encI (mkI (!((ofZ (toZ x)).neg)) (val (ofNat (Int.natAbs (toZ x)))))))) (d := (encI (mkI (!((ofZ (toZ x)).neg)) (val (ofNat (Int.natAbs (toZ x))))))) rfl rfl sh40 rfl rfl .nil), ?_⟩
  rw [← rneg_eq]; rfl
theorem r_sign (x : RInt) (hx : x.gs.length ≤ 1099511627776) : Takes Tryz.prog 84 [(encI x)] (.val (.int .i64 ((signI (toZ x))))) := by
  have hvx := gs_val2 x
  refine fn_intro Tryz.func84 rfl cb84 rfl ?_
  show PWp _ _ _ _ ⟨[(0, (.d (encI x)))], []⟩
  refine pwp_seq <| kx [(1, (.ref 0 0))] [(0, some (bx (encI x)))] (zN (oBx 0) <| zM <| zZ) ?_
  refine pwp_seq <| kx [] [(0, some (bx (encI (ofZ (toZ x)))))] (zR (oLa sh40) <| zE (oCl (r_value x (by omega))) <| zT (oSt sh40) <| zZ) ?_
  refine pwp_seq <| pwp_seq <| kx [(8, (vb ((((ofNat (Int.natAbs (toZ x))).length : Nat) : Int) == 0)))] [] (zE (oFr fo40_1) <| zR (oL1 sh38) <| zE (oLm el38 (L := (ofNat (Int.natAbs (toZ x))))) <| zE oEq <| zZ) ?_
  refine pwp_cond rfl (fun h1 => ?_) (fun h1 => ?_)
  · replace h1 := eq_of_beq h1
    refine pwp_seq <| kx [(2, (vin 0))] [] (zM <| zZ) ?_
    refine pwp_ret ⟨_, (.tmp (d := (.val (.int .i64 (0)))) rfl .nil), ?_⟩
    rw [rsign_zero h1]; rfl
  · replace h1 := ne_of_beq_false h1
    refine pwp_skip <| pwp_seq <| pwp_seq <| kx [(10, (vb ((ofZ (toZ x)).neg)))] [] (zE (oFr fo40_0) <| zR (oL1 sh4) <| zZ) ?_
    refine pwp_cond (b := (ofZ (toZ x)).neg) rfl (fun h2 => ?_) (fun h2 => ?_)
    · refine pwp_seq <| kx [(2, (vi (-1)))] [] (zM <| zZ) ?_
      refine pwp_ret ⟨_, (.tmp (d := (.val (.int .i64 (-1)))) rfl .nil), ?_⟩
      rw [rsign_neg h1 h2]; rfl
    · refine pwp_skip <| pwp_seq <| kx [(2, (vin 1))] [] (zM <| zZ) ?_
      refine pwp_ret ⟨_, (.tmp (d := (.val (.int .i64 (1)))) rfl .nil), ?_⟩
      rw [rsign_pos h1 h2]; rfl
theorem r_add (x : RInt) (y : RInt) (hx : x.gs.length ≤ 1099511627776) (hy : y.gs.length ≤ 1099511627776) : Takes Tryz.prog 135 [(encI x), (encI y)] (encI (ofZ (toZ x + toZ y))) := by
  have hvx := gs_val2 x
  have hvy := gs_val2 y
  refine fn_intro Tryz.func135 rfl cb135 rfl ?_
  show PWp _ _ _ _ ⟨[(0, (.d (encI x))), (1, (.d (encI y)))], []⟩
  refine pwp_seq <| kx [(2, (.ref 0 0)), (3, (.ref 1 0)), (4, (.ref 2 0))] [(0, some (bx (encI x))), (1, some (bx (encI y))), (2, some (bx (encI (RInt.mk false []))))] (zN (oBx 0) <| zN (oBx 1) <| zN (oAl 2 ze40 zo40) <| zZ) ?_
  refine pwp_seq <| kd [] [(0, some (bx (encI (ofZ (toZ x))))), (1, some (bx (encI (ofZ (toZ y)))))] mo (wR (oLa sh40) <| wE (oCl (r_value x (by omega))) <| wR (oLa sh40) <| wE (oCl (r_value y (by omega))) <| wT (oSt sh40) <| wT (oSt sh40) <| wZ) ?_
  refine pwp_seq <| pwp_seq <| kx [(13, (vb (((ofZ (toZ x)).neg) == ((ofZ (toZ y)).neg))))] [] (zE (oFr fo40_0) <| zR (oL1 sh4) <| zE (oFr fo40_0) <| zR (oL1 sh4) <| zE (oEb bo4) <| zZ) ?_
  refine pwp_cond rfl (fun h1 => ?_) (fun h1 => ?_)
  · replace h1 := eq_of_beq h1
    refine pwp_seq <| kd [] [(2, some (bx (encI (mkI ((ofZ (toZ x)).neg) (val (ofNat (val (ofNat (Int.natAbs (toZ x))) + val (ofNat (Int.natAbs (toZ y))))))))))] mo (wE (oFr fo40_0) <| wR (oL1 sh4) <| wE (oFr fo40_1) <| wR (oL1 sh38) <| wE (oFr fo40_1) <| wR (oL1 sh38) <| wE (oCl (r_plus (ofNat (Int.natAbs (toZ x))) (ofNat (Int.natAbs (toZ y))) (by first | assumption | exact ofNat_dig _ | exact (ofNat_can _).1 | exact (grpI_can _).1) (by first | assumption | exact ofNat_dig _ | exact (ofNat_can _).1 | exact (grpI_can _).1) (by omega) (by omega))) <| wE (oCl (r_made ((ofZ (toZ x)).neg) (ofNat (val (ofNat (Int.natAbs (toZ x))) + val (ofNat (Int.natAbs (toZ y))))) (by first | assumption | exact ofNat_dig _ | exact (ofNat_can _).1 | exact (grpI_can _).1) (by first | omega | exact Nat.le_trans (add_len (ofNat_dig _) (ofNat_dig _)) (by omega) | exact Nat.le_trans (sub_len (ofNat_dig _)) (by omega)))) <| wT (oSt sh40) <| wZ) ?_
    refine pwp_ret ⟨_, (res_a (cs := (bx (encI (mkI ((ofZ (toZ x)).neg) (val (ofNat (val (ofNat (Int.natAbs (toZ x))) + val (ofNat (Int.natAbs (toZ y)))))))))) (d := (encI (mkI ((ofZ (toZ x)).neg) (val (ofNat (val (ofNat (Int.natAbs (toZ x))) + val (ofNat (Int.natAbs (toZ y))))))))) rfl rfl sh40 rfl rfl .nil), ?_⟩
    rw [← rsum_same h1]; rfl
  · replace h1 := ne_of_beq_false h1
    refine pwp_skip <| pwp_seq <| pwp_seq <| kx [(27, (vb (decide (0 ≤ (cmpI ((val (ofNat (Int.natAbs (toZ x))) : Nat) : Int) ((val (ofNat (Int.natAbs (toZ y))) : Nat) : Int))))))] [] (zE (oFr fo40_1) <| zR (oL1 sh38) <| zE (oFr fo40_1) <| zR (oL1 sh38) <| zE (oCl (r_size (ofNat (Int.natAbs (toZ x))) (ofNat (Int.natAbs (toZ y))) (by first | assumption | exact ofNat_can _ | exact grpI_can _) (by first | assumption | exact ofNat_can _ | exact grpI_can _) (by omega) (by omega))) <| zE oGe <| zZ) ?_
    refine pwp_cond rfl (fun h2 => ?_) (fun h2 => ?_)
    · replace h2 := of_decide_eq_true h2
      refine pwp_seq <| kd [] [(2, some (bx (encI (mkI ((ofZ (toZ x)).neg) (val (ofNat (val (ofNat (Int.natAbs (toZ x))) - val (ofNat (Int.natAbs (toZ y))))))))))] mo (wE (oFr fo40_0) <| wR (oL1 sh4) <| wE (oFr fo40_1) <| wR (oL1 sh38) <| wE (oFr fo40_1) <| wR (oL1 sh38) <| wE (oCl (r_minus (ofNat (Int.natAbs (toZ x))) (ofNat (Int.natAbs (toZ y))) (by first | assumption | exact ofNat_dig _ | exact (ofNat_can _).1 | exact (grpI_can _).1) (by first | assumption | exact ofNat_dig _ | exact (ofNat_can _).1 | exact (grpI_can _).1) (by have := cmpI_ge h2; omega) (by omega))) <| wE (oCl (r_made ((ofZ (toZ x)).neg) (ofNat (val (ofNat (Int.natAbs (toZ x))) - val (ofNat (Int.natAbs (toZ y))))) (by first | assumption | exact ofNat_dig _ | exact (ofNat_can _).1 | exact (grpI_can _).1) (by first | omega | exact Nat.le_trans (add_len (ofNat_dig _) (ofNat_dig _)) (by omega) | exact Nat.le_trans (sub_len (ofNat_dig _)) (by omega)))) <| wT (oSt sh40) <| wZ) ?_
      refine pwp_ret ⟨_, (res_a (cs := (bx (encI (mkI ((ofZ (toZ x)).neg) (val (ofNat (val (ofNat (Int.natAbs (toZ x))) - val (ofNat (Int.natAbs (toZ y)))))))))) (d := (encI (mkI ((ofZ (toZ x)).neg) (val (ofNat (val (ofNat (Int.natAbs (toZ x))) - val (ofNat (Int.natAbs (toZ y))))))))) rfl rfl sh40 rfl rfl .nil), ?_⟩
      rw [← rsum_first h1 (by have := cmpI_ge h2; omega)]; rfl
    · replace h2 := of_decide_eq_false h2
      refine pwp_skip <| pwp_seq <| kd [] [(2, some (bx (encI (mkI ((ofZ (toZ y)).neg) (val (ofNat (val (ofNat (Int.natAbs (toZ y))) - val (ofNat (Int.natAbs (toZ x))))))))))] mo (wE (oFr fo40_0) <| wR (oL1 sh4) <| wE (oFr fo40_1) <| wR (oL1 sh38) <| wE (oFr fo40_1) <| wR (oL1 sh38) <| wE (oCl (r_minus (ofNat (Int.natAbs (toZ y))) (ofNat (Int.natAbs (toZ x))) (by first | assumption | exact ofNat_dig _ | exact (ofNat_can _).1 | exact (grpI_can _).1) (by first | assumption | exact ofNat_dig _ | exact (ofNat_can _).1 | exact (grpI_can _).1) (by have := cmpI_lt h2; omega) (by omega))) <| wE (oCl (r_made ((ofZ (toZ y)).neg) (ofNat (val (ofNat (Int.natAbs (toZ y))) - val (ofNat (Int.natAbs (toZ x))))) (by first | assumption | exact ofNat_dig _ | exact (ofNat_can _).1 | exact (grpI_can _).1) (by first | omega | exact Nat.le_trans (add_len (ofNat_dig _) (ofNat_dig _)) (by omega) | exact Nat.le_trans (sub_len (ofNat_dig _)) (by omega)))) <| wT (oSt sh40) <| wZ) ?_
      refine pwp_ret ⟨_, (res_a (cs := (bx (encI (mkI ((ofZ (toZ y)).neg) (val (ofNat (val (ofNat (Int.natAbs (toZ y))) - val (ofNat (Int.natAbs (toZ x)))))))))) (d := (encI (mkI ((ofZ (toZ y)).neg) (val (ofNat (val (ofNat (Int.natAbs (toZ y))) - val (ofNat (Int.natAbs (toZ x))))))))) rfl rfl sh40 rfl rfl .nil), ?_⟩
      rw [← rsum_second h1 (by have := cmpI_lt h2; omega)]; rfl
theorem r_sub (x : RInt) (y : RInt) (hx : x.gs.length ≤ 1099511627776) (hy : y.gs.length ≤ 1099511627776) : Takes Tryz.prog 147 [(encI x), (encI y)] (encI (ofZ (toZ x - toZ y))) := by
  have hv := gs_neg y
  refine fn_intro Tryz.func147 rfl cb147 rfl ?_
  show PWp _ _ _ _ ⟨[(0, (.d (encI x))), (1, (.d (encI y)))], []⟩
  refine pwp_seq <| kx [(2, (.ref 0 0)), (3, (.ref 1 0)), (4, (.ref 2 0))] [(0, some (bx (encI x))), (1, some (bx (encI y))), (2, some (bx (encI (RInt.mk false []))))] (zN (oBx 0) <| zN (oBx 1) <| zN (oAl 2 ze40 zo40) <| zZ) ?_
  refine pwp_seq <| kd [] [(2, some (bx (encI (ofZ (toZ x + toZ (ofZ (-toZ y)))))))] mo (wR (oLa sh40) <| wR (oLa sh40) <| wE (oCl (r_neg y (by omega))) <| wE (oCl (r_add x (ofZ (-toZ y)) (by omega) (by omega))) <| wT (oSt sh40) <| wZ) ?_
  refine pwp_ret ⟨_, (res_a (cs := (bx (encI (ofZ (toZ x + toZ (ofZ (-toZ y))))))) (d := (encI (ofZ (toZ x + toZ (ofZ (-toZ y)))))) rfl rfl sh40 rfl rfl .nil), ?_⟩
  rw [toZ_ofZ, ← Int.sub_eq_add_neg]; rfl
theorem r_mul (x : RInt) (y : RInt) (hx : x.gs.length ≤ 1099511627776) (hy : y.gs.length ≤ 1099511627776) : Takes Tryz.prog 103 [(encI x), (encI y)] (encI (ofZ (toZ x * toZ y))) := by
  have hvx := gs_val2 x
  have hvy := gs_val2 y
  have hda := ofNat_dig (Int.natAbs (toZ x))
  have hdb := ofNat_dig (Int.natAbs (toZ y))
  refine fn_intro Tryz.func103 rfl cb103 rfl ?_
  show PWp _ _ _ _ ⟨[(0, (.d (encI x))), (1, (.d (encI y)))], []⟩
  refine pwp_seq <| kx [(2, (.ref 0 0)), (3, (.ref 1 0)), (4, (.ref 2 0))] [(0, some (bx (encI x))), (1, some (bx (encI y))), (2, some (bx (encI (RInt.mk false []))))] (zN (oBx 0) <| zN (oBx 1) <| zN (oAl 2 ze40 zo40) <| zZ) ?_
  refine pwp_seq <| kd [] [(0, some (bx (encI (ofZ (toZ x))))), (1, some (bx (encI (ofZ (toZ y)))))] mo (wR (oLa sh40) <| wE (oCl (r_value x (by omega))) <| wR (oLa sh40) <| wE (oCl (r_value y (by omega))) <| wT (oSt sh40) <| wT (oSt sh40) <| wZ) ?_
  refine pwp_seq <| kx [(5, (.own 3 152 1 ((ofNat (Int.natAbs (toZ x))).length + (ofNat (Int.natAbs (toZ y))).length)))] [(3, some (bm enc_u32 (List.replicate ((ofNat (Int.natAbs (toZ x))).length + (ofNat (Int.natAbs (toZ y))).length) 0)))] (zE (oFr fo40_1) <| zR (oL1 sh38) <| zE (oLm el38 (L := (ofNat (Int.natAbs (toZ x))))) <| zE (oFr fo40_1) <| zR (oL1 sh38) <| zE (oLm el38 (L := (ofNat (Int.natAbs (toZ y))))) <| zE (oAd ((ofNat (Int.natAbs (toZ x))).length + (ofNat (Int.natAbs (toZ y))).length)) <| zN (oMk 3 enc_u32 (0 : Nat) ((ofNat (Int.natAbs (toZ x))).length + (ofNat (Int.natAbs (toZ y))).length) ((ofNat (Int.natAbs (toZ x))).length + (ofNat (Int.natAbs (toZ y))).length) el38 ze152 zo152 by152) <| zM <| zZ) ?_
  refine pwp_seq <| pwp_seq <| kx [(6, (vin 0))] [] (zM <| zZ) ?_
  refine pwp_block <| pwp_loop (α := Nat × List Nat) (fun (i, out) => ⟨[(2, (.ref 0 0)), (3, (.ref 1 0)), (4, (.ref 2 0)), (5, (.own 3 152 1 ((ofNat (Int.natAbs (toZ x))).length + (ofNat (Int.natAbs (toZ y))).length))), (6, (vin i))], [(0, some (bx (encI (ofZ (toZ x))))), (1, some (bx (encI (ofZ (toZ y))))), (2, some (bx (encI (RInt.mk false [])))), (3, some (bm enc_u32 out))]⟩) (fun (i, out) => out.length = (ofNat (Int.natAbs (toZ x))).length + (ofNat (Int.natAbs (toZ y))).length ∧ Dig out ∧ i ≤ (ofNat (Int.natAbs (toZ x))).length ∧ (∀ k, i + (ofNat (Int.natAbs (toZ y))).length ≤ k → out.getD k 0 = 0) ∧ val out = val ((ofNat (Int.natAbs (toZ x))).take i) * val (ofNat (Int.natAbs (toZ y)))) (fun (i, out) => (ofNat (Int.natAbs (toZ x))).length - i) (0, List.replicate ((ofNat (Int.natAbs (toZ x))).length + (ofNat (Int.natAbs (toZ y))).length) 0) wk ⟨by simp, dig_replicate _, Nat.zero_le _, fun k _ => getD_replicate _ k, by simp [val, val_replicate]⟩ ?_
  rintro ⟨i, out⟩ ⟨hlen, hdo, hi, hz, hv⟩
  have hai := hda.getD i
  refine pwp_seq <| pwp_seq <| kx [(26, (vb (decide (((i : Nat) : Int) < (((ofNat (Int.natAbs (toZ x))).length : Nat) : Int)))))] [] (zM <| zE (oFr fo40_1) <| zR (oL1 sh38) <| zE (oLm el38 (L := (ofNat (Int.natAbs (toZ x))))) <| zE oLt <| zZ) ?_
  refine pwp_cond rfl (fun h1 => ?_) (fun h1 => ?_)
  · replace h1 := of_decide_eq_true h1
    refine pwp_skip <| pwp_seq <| pwp_block <| pwp_seq <| kx [(7, (vqn 0))] [] (zM <| zZ) ?_
    refine pwp_seq <| pwp_seq <| kx [(8, (vin 0))] [] (zM <| zZ) ?_
    refine pwp_block <| pwp_loop (α := Nat × List Nat × Nat) (fun (j, o2, c) => ⟨[(2, (.ref 0 0)), (3, (.ref 1 0)), (4, (.ref 2 0)), (5, (.own 3 152 1 ((ofNat (Int.natAbs (toZ x))).length + (ofNat (Int.natAbs (toZ y))).length))), (6, (vin i)), (7, (vqn c)), (8, (vin j))], [(0, some (bx (encI (ofZ (toZ x))))), (1, some (bx (encI (ofZ (toZ y))))), (2, some (bx (encI (RInt.mk false [])))), (3, some (bm enc_u32 o2))]⟩) (fun (j, o2, c) => o2.length = (ofNat (Int.natAbs (toZ x))).length + (ofNat (Int.natAbs (toZ y))).length ∧ Dig o2 ∧ j ≤ (ofNat (Int.natAbs (toZ y))).length ∧ c < 1000000000 ∧ (∀ k, i + (ofNat (Int.natAbs (toZ y))).length ≤ k → o2.getD k 0 = 0) ∧ val o2 + pw (i + j) * c = val ((ofNat (Int.natAbs (toZ x))).take i) * val (ofNat (Int.natAbs (toZ y))) + pw i * ((ofNat (Int.natAbs (toZ x))).getD i 0 * val ((ofNat (Int.natAbs (toZ y))).take j))) (fun (j, o2, c) => (ofNat (Int.natAbs (toZ y))).length - j) (0, out, 0) wk ⟨hlen, hdo, Nat.zero_le _, by decide, hz, by simp [val, hv]⟩ ?_
    rintro ⟨j, o2, c⟩ ⟨hlen2, hdo2, hj, hc, hz2, hv2⟩
    have hbj := hdb.getD j
    have hoj := hdo2.getD (i + j)
    have hpq : (ofNat (Int.natAbs (toZ x))).getD i 0 * (ofNat (Int.natAbs (toZ y))).getD j 0 ≤ 999999999 * 999999999 := Nat.mul_le_mul (by omega) (by omega)
    refine pwp_seq <| pwp_seq <| kx [(33, (vb (decide (((j : Nat) : Int) < (((ofNat (Int.natAbs (toZ y))).length : Nat) : Int)))))] [] (zM <| zE (oFr fo40_1) <| zR (oL1 sh38) <| zE (oLm el38 (L := (ofNat (Int.natAbs (toZ y))))) <| zE oLt <| zZ) ?_
    refine pwp_cond rfl (fun h2 => ?_) (fun h2 => ?_)
    · replace h2 := of_decide_eq_true h2
      refine pwp_skip <| pwp_seq <| pwp_block <| pwp_seq <| kd [(9, (vqn (((o2.getD (i + j) 0) + (((ofNat (Int.natAbs (toZ x))).getD i 0) * ((ofNat (Int.natAbs (toZ y))).getD j 0))) + c)))] [] mo (wM <| wM <| wM <| wE (oAd (i + j)) <| wE (oXo el38 (i + j)) <| wR (oLp sh152 (i + j) (0 : Nat)) <| wE (oCv un152 in154 (o2.getD (i + j) 0)) <| wE (oFr fo40_1) <| wR (oL1 sh38) <| wM <| wE (oXl el38 i (0 : Nat) (L := (ofNat (Int.natAbs (toZ x))))) <| wE (oC1 sh152) <| wE (oCv un152 in154 ((ofNat (Int.natAbs (toZ x))).getD i 0)) <| wE (oFr fo40_1) <| wR (oL1 sh38) <| wM <| wE (oXl el38 j (0 : Nat) (L := (ofNat (Int.natAbs (toZ y))))) <| wE (oC1 sh152) <| wE (oCv un152 in154 ((ofNat (Int.natAbs (toZ y))).getD j 0)) <| wE (oMl (((ofNat (Int.natAbs (toZ x))).getD i 0) * ((ofNat (Int.natAbs (toZ y))).getD j 0))) <| wE (oAd ((o2.getD (i + j) 0) + (((ofNat (Int.natAbs (toZ x))).getD i 0) * ((ofNat (Int.natAbs (toZ y))).getD j 0)))) <| wM <| wE (oAd (((o2.getD (i + j) 0) + (((ofNat (Int.natAbs (toZ x))).getD i 0) * ((ofNat (Int.natAbs (toZ y))).getD j 0))) + c)) <| wM <| wZ) ?_
      refine pwp_seq <| kx [] [(3, some (bm enc_u32 (o2.set (i + j) ((((o2.getD (i + j) 0) + (((ofNat (Int.natAbs (toZ x))).getD i 0) * ((ofNat (Int.natAbs (toZ y))).getD j 0))) + c) % 1000000000))))] (zM <| zM <| zM <| zE (oAd (i + j)) <| zM <| zE (oRe ((((o2.getD (i + j) 0) + (((ofNat (Int.natAbs (toZ x))).getD i 0) * ((ofNat (Int.natAbs (toZ y))).getD j 0))) + c) % 1000000000)) <| zE (oCv un154 in152 ((((o2.getD (i + j) 0) + (((ofNat (Int.natAbs (toZ x))).getD i 0) * ((ofNat (Int.natAbs (toZ y))).getD j 0))) + c) % 1000000000)) <| zE (oXo el38 (i + j)) <| zT (oSp sh152 (i + j) ((((o2.getD (i + j) 0) + (((ofNat (Int.natAbs (toZ x))).getD i 0) * ((ofNat (Int.natAbs (toZ y))).getD j 0))) + c) % 1000000000)) <| zZ) ?_
      refine kx [(7, (vqn ((((o2.getD (i + j) 0) + (((ofNat (Int.natAbs (toZ x))).getD i 0) * ((ofNat (Int.natAbs (toZ y))).getD j 0))) + c) / 1000000000)))] [] (zM <| zE (oQu ((((o2.getD (i + j) 0) + (((ofNat (Int.natAbs (toZ x))).getD i 0) * ((ofNat (Int.natAbs (toZ y))).getD j 0))) + c) / 1000000000)) <| zM <| zZ) ?_
      refine kx [(8, (vin (j + 1)))] [] (zM <| zE (oAd (j + 1)) <| zM <| zZ) ?_
      exact ⟨(j + 1, o2.set (i + j) ((o2.getD (i + j) 0 + (ofNat (Int.natAbs (toZ x))).getD i 0 * (ofNat (Int.natAbs (toZ y))).getD j 0 + c) % 1000000000), (o2.getD (i + j) 0 + (ofNat (Int.natAbs (toZ x))).getD i 0 * (ofNat (Int.natAbs (toZ y))).getD j 0 + c) / 1000000000), wk, (by obtain ⟨q1, q2⟩ := times_step (by omega) hdo2 hv2 rfl (val_take_succ _ j); exact ⟨by simpa using hlen2, q1, by omega, by omega, zero_set (by omega) hz2, q2⟩), (by first | omega | (dsimp only; omega))⟩
    · replace h2 := of_decide_eq_false h2
      have hje : j = (ofNat (Int.natAbs (toZ y))).length := by omega
      rw [hje] at hv2
      refine pwp_exit <| kx [] [(3, some (bm enc_u32 (o2.set (i + (ofNat (Int.natAbs (toZ y))).length) c)))] (zM <| zM <| zE (oFr fo40_1) <| zR (oL1 sh38) <| zE (oLm el38 (L := (ofNat (Int.natAbs (toZ y))))) <| zE (oAd (i + (ofNat (Int.natAbs (toZ y))).length)) <| zM <| zE (oCv un154 in152 c) <| zE (oXo el38 (i + (ofNat (Int.natAbs (toZ y))).length)) <| zT (oSp sh152 (i + (ofNat (Int.natAbs (toZ y))).length) c) <| zZ) ?_
      refine kx [(6, (vin (i + 1)))] [] (zM <| zE (oAd (i + 1)) <| zM <| zZ) ?_
      exact ⟨(i + 1, o2.set (i + (ofNat (Int.natAbs (toZ y))).length) c), wk, (by obtain ⟨q1, q2, q3, q4⟩ := times_row hdo2 (by omega) hlen2 hz2 hc hv2; exact ⟨q1, q2, by omega, q3, q4⟩), (by first | omega | (dsimp only; omega))⟩
  · replace h1 := of_decide_eq_false h1
    have hie : i = (ofNat (Int.natAbs (toZ x))).length := by omega
    rw [hie, List.take_length] at hv
    refine pwp_exit <| pwp_seq <| pwp_sim (publish (t := 5) (k := 3) (es := List.map enc_u32 out) rfl rfl (pub_cells _ _ (fun _ => rfl)) (map_len _ _ hlen) (pub_take _ _ (fun _ => rfl) hlen)) ?_
    refine kx [] [(2, some (bx (encI (mkI (!(((ofZ (toZ x)).neg) == ((ofZ (toZ y)).neg))) (val out)))))] (zE (oFr fo40_0) <| zR (oL1 sh4) <| zE (oFr fo40_0) <| zR (oL1 sh4) <| zE (oNb bo4) <| zM <| zE (oCl (r_made (!(((ofZ (toZ x)).neg) == ((ofZ (toZ y)).neg))) out hdo (by omega))) <| zT (oSt sh40) <| zZ) ?_
    refine pwp_ret ⟨_, (res_a (cs := (bx (encI (mkI (!(((ofZ (toZ x)).neg) == ((ofZ (toZ y)).neg))) (val out))))) (d := (encI (mkI (!(((ofZ (toZ x)).neg) == ((ofZ (toZ y)).neg))) (val out)))) rfl rfl sh40 rfl rfl .nil), ?_⟩
    rw [hv, rmul_eq]; rfl
theorem r_short (a : List Nat) (d : Nat) (hda : Dig a) (hd0 : 0 < d) (hd1 : d ≤ 1000000000) (hla : a.length ≤ 17592186044416) : Takes Tryz.prog 189 [(.sl 152 1 (List.map enc_u32 a)), (.val (.int .u64 (((d : Nat) : Int))))] (.tup [(.sl 152 1 (List.map enc_u32 (ofNat (val a / d)))), (.val (.int .u64 ((((val a % d) : Nat) : Int))))]) := by
  refine fn_intro Tryz.func189 rfl cb189 rfl ?_
  show PWp _ _ _ _ ⟨[(0, (vl 152 1 enc_u32 a)), (1, (vqn d))], []⟩
  refine pwp_seq <| kx [] [] (zE (oNl 152 1) <| zM <| zZ) ?_
  refine pwp_seq <| kx [(6, (.own 0 152 1 a.length))] [(0, some (bm enc_u32 (List.replicate a.length 0)))] (zM <| zE (oLm el38) <| zN (oMk 0 enc_u32 (0 : Nat) a.length a.length el38 ze152 zo152 by152) <| zM <| zZ) ?_
  refine pwp_seq <| kx [(7, (vqn 0))] [] (zM <| zZ) ?_
  refine pwp_seq <| pwp_seq <| kx [(8, (vi (((a.length : Nat) : Int) - 1)))] [] (zM <| zE (oLm el38) <| zE (zSb (((a.length : Nat) : Int) - 1)) <| zM <| zZ) ?_
  refine pwp_block <| pwp_loop (α := Nat × List Nat × Nat) (fun (k, q, rest) => ⟨[(0, (vl 152 1 enc_u32 a)), (1, (vqn d)), (6, (.own 0 152 1 a.length)), (7, (vqn rest)), (8, (vi (((k : Nat) : Int) - 1)))], [(0, some (bm enc_u32 q))]⟩) (fun (k, q, rest) => k ≤ a.length ∧ q.length = a.length ∧ Dig q ∧ rest < d ∧ val (a.drop k) = val (q.drop k) * d + rest) (fun (k, q, rest) => k) (a.length, List.replicate a.length 0, 0) wk ⟨Nat.le_refl _, by simp, dig_replicate _, hd0, by simp [val]⟩ ?_
  rintro ⟨k, q, rest⟩ ⟨hk, hlen, hdq, hr, hv⟩
  refine pwp_seq <| pwp_seq <| kx [(17, (vb (decide (0 ≤ (((k : Nat) : Int) - 1)))))] [] (zM <| zE oGe <| zZ) ?_
  refine pwp_cond (b := decide (0 ≤ (((k : Nat) : Int) - 1))) rfl (fun h1 => ?_) (fun h1 => ?_)
  · replace h1 := of_decide_eq_true h1
    obtain ⟨i, rfl⟩ : ∃ i, k = i + 1 := ⟨k - 1, by omega⟩
    rw [show (((i + 1 : Nat) : Int) - 1) = ((i : Nat) : Int) from by omega]
    have hg := hda.getD i
    obtain ⟨hb1, hb2⟩ := short_bound hr hd1 hg
    refine pwp_skip <| pwp_seq <| pwp_block <| pwp_seq <| kx [(8, (vin i)), (9, (vqn ((rest * 1000000000) + (a.getD i 0))))] [] (zM <| zE (oMl (rest * 1000000000)) <| zM <| zM <| zE (oXl el38 i (0 : Nat)) <| zE (oC1 sh152) <| zE (oCv un152 in154 (a.getD i 0)) <| zE (oAd ((rest * 1000000000) + (a.getD i 0))) <| zM <| zZ) ?_
    refine pwp_seq <| kx [] [(0, some (bm enc_u32 (q.set i (((rest * 1000000000) + (a.getD i 0)) / d))))] (zM <| zM <| zM <| zM <| zE (oQu (((rest * 1000000000) + (a.getD i 0)) / d)) <| zE (oCv un154 in152 (((rest * 1000000000) + (a.getD i 0)) / d)) <| zE (oXo el38 i) <| zT (oSp sh152 i (((rest * 1000000000) + (a.getD i 0)) / d)) <| zZ) ?_
    refine kx [(7, (vqn (((rest * 1000000000) + (a.getD i 0)) % d)))] [] (zM <| zM <| zE (oRe (((rest * 1000000000) + (a.getD i 0)) % d)) <| zM <| zZ) ?_
    refine kx [(8, (vi (((i : Nat) : Int) - 1)))] [] (zM <| zE (zSb (((i : Nat) : Int) - 1)) <| zM <| zZ) ?_
    exact ⟨(i, q.set i ((rest * 1000000000 + a.getD i 0) / d), (rest * 1000000000 + a.getD i 0) % d), wk, ⟨by omega, by simpa using hlen, hdq.set _ hb2, Nat.mod_lt _ hd0, rshort_step (by omega) hv rfl⟩, (by first | omega | (dsimp only; omega))⟩
  · replace h1 := of_decide_eq_false h1
    obtain rfl : k = 0 := by omega
    obtain ⟨e1, e2⟩ := short_end (a := a) (q := q) (by rw [Nat.sub_self]; exact hv) hr
    refine pwp_exit <| pwp_seq <| pwp_sim (publish (t := 6) (k := 0) (es := List.map enc_u32 q) rfl rfl (pub_cells _ _ (fun _ => rfl)) (map_len _ _ hlen) (pub_take _ _ (fun _ => rfl) hlen)) ?_
    refine kx [(4, (vl 152 1 enc_u32 (ofNat (val q)))), (5, (vqn rest))] [] (zM <| zE (oCl (r_made false q (by first | assumption | exact ofNat_dig _ | exact (ofNat_can _).1 | exact (grpI_can _).1) (by omega))) <| zE (oF1 ft40_1 sh38) <| zM <| zM <| zM <| zZ) ?_
    refine pwp_ret ⟨_, (.tmp (d := (.sl 152 1 (List.map enc_u32 (ofNat (val q))))) rfl (.tmp (d := (.val (.int .u64 (((rest : Nat) : Int))))) rfl .nil)), ?_⟩
    rw [← e1, ← e2]; rfl
theorem r_pair (l : List Nat) (hd : Dig l) (h2 : l.length ≤ 2) : Takes Tryz.prog 149 [(.sl 152 1 (List.map enc_u32 l))] (.val (.int .u64 ((((val l) : Nat) : Int)))) := by
  have h0 := hd.getD 0
  have h1 := hd.getD 1
  refine fn_intro Tryz.func149 rfl cb149 rfl ?_
  show PWp _ _ _ _ ⟨[(0, (vl 152 1 enc_u32 l))], []⟩
  refine pwp_seq <| kx [] [] (zM <| zZ) ?_
  refine pwp_seq <| kx [(2, (vqn (((l.getD 1 0) * 1000000000) + (l.getD 0 0))))] [] (zM <| zE (oCl (r_group l 1 (by first | assumption | exact ofNat_dig _ | exact (ofNat_can _).1 | exact (grpI_can _).1))) <| zE (oMl ((l.getD 1 0) * 1000000000)) <| zM <| zE (oCl (r_group l 0 (by first | assumption | exact ofNat_dig _ | exact (ofNat_can _).1 | exact (grpI_can _).1))) <| zE (oAd (((l.getD 1 0) * 1000000000) + (l.getD 0 0))) <| zM <| zZ) ?_
  refine pwp_ret ⟨_, (.tmp (d := (.val (.int .u64 ((((((l.getD 1 0) * 1000000000) + (l.getD 0 0)) : Nat) : Int))))) rfl .nil), ?_⟩
  rw [val_pair h2]; rfl
theorem r_parts (a b : List Nat) (hda : Cano a) (hdb : Cano b) (hb0 : 0 < b.length) (hla : a.length ≤ 1099511627776) (hlb : b.length ≤ 1099511627776) : Takes Tryz.prog 148 [(.sl 152 1 (List.map enc_u32 a)), (.sl 152 1 (List.map enc_u32 b))] (.tup [(.sl 152 1 (List.map enc_u32 (ofNat (val a / val b)))), (.sl 152 1 (List.map enc_u32 (ofNat (val a % val b))))]) := by
  have hsc := scl_bound hdb hb0
  have htp := top_pos hdb hb0
  have hbp := len_pos_val hdb hb0
  refine fn_intro Tryz.func148 rfl cb148 rfl ?_
  show PWp _ _ _ _ ⟨[(0, (vl 152 1 enc_u32 a)), (1, (vl 152 1 enc_u32 b))], []⟩
  refine pwp_seq <| kx [] [] (zE (oNl 152 1) <| zE (oNl 152 1) <| zZ) ?_
  refine pwp_seq <| kx [(6, (vin b.length))] [] (zM <| zE (oLm el38) <| zM <| zZ) ?_
  refine pwp_seq <| pwp_seq <| kx [(19, (vb (((b.length : Nat) : Int) == 1)))] [] (zM <| zE oEq <| zZ) ?_
  refine pwp_cond (b := (((b.length : Nat) : Int) == 1)) rfl (fun h1 => ?_) (fun h1 => ?_)
  · replace h1 := eq_of_beq h1
    have hg0 := hdb.1.getD 0
    have hv1 := val_len1 (b := b) (by omega)
    have hb00 : 0 < b.getD 0 0 := by omega
    have hrl : val a % b.getD 0 0 < 1000000000 := Nat.lt_trans (Nat.mod_lt _ hb00) (by omega)
    refine pwp_seq <| kx [(7, (vl 152 1 enc_u32 (ofNat (val a / (b.getD 0 0))))), (8, (vqn (val a % (b.getD 0 0))))] [] (zM <| zM <| zE (oXl el38 0 (0 : Nat)) <| zE (oC1 sh152) <| zE (oCv un152 in154 (b.getD 0 0)) <| zE (oCl (r_short a (b.getD 0 0) hda.1 (by omega) (by omega) (by omega))) <| zM <| zE oEx <| zE oEx <| zM <| zM <| zZ) ?_
    refine pwp_seq <| kx [(4, (vl 152 1 enc_u32 (ofNat (val a / (b.getD 0 0))))), (5, (vl 152 1 enc_u32 (ofNat (val [(val a % (b.getD 0 0))]))))] [] (zM <| zM <| zE (oCv un154 in152 (val a % (b.getD 0 0))) <| zE (oBs el38 ze152 zo152) <| zE (oCl (r_made false [(val a % (b.getD 0 0))] (dig_cons.2 ⟨by omega, dig_nil⟩) (by simp))) <| zE (oF1 ft40_1 sh38) <| zM <| zM <| zZ) ?_
    refine pwp_ret ⟨_, (.tmp (d := (.sl 152 1 (List.map enc_u32 (ofNat (val a / (b.getD 0 0)))))) rfl (.tmp (d := (.sl 152 1 (List.map enc_u32 (ofNat (val [(val a % (b.getD 0 0))]))))) rfl .nil)), ?_⟩
    rw [hv1, val_one]; rfl
  · replace h1 := ne_of_beq_false h1
    refine pwp_skip <| pwp_seq <| pwp_seq <| kx [(38, (vb (decide ((cmpI ((val a : Nat) : Int) ((val b : Nat) : Int)) < 0))))] [] (zM <| zM <| zE (oCl (r_size a b (by first | assumption | exact ofNat_can _ | exact grpI_can _) (by first | assumption | exact ofNat_can _ | exact grpI_can _) (by omega) (by omega))) <| zE oLt <| zZ) ?_
    refine pwp_cond rfl (fun h2 => ?_) (fun h2 => ?_)
    · replace h2 := of_decide_eq_true h2
      refine pwp_seq <| kx [(4, (vl 152 1 enc_u32 [])), (5, (vl 152 1 enc_u32 a))] [] (zE (oBs el38 ze152 zo152) <| zM <| zM <| zM <| zZ) ?_
      refine pwp_ret ⟨_, (.tmp (d := (.sl 152 1 (List.map enc_u32 []))) rfl (.tmp (d := (.sl 152 1 (List.map enc_u32 a))) rfl .nil)), ?_⟩
      have hlt := cmpI_neg h2
      rw [Nat.div_eq_of_lt hlt, Nat.mod_eq_of_lt hlt, ofNat_zero, ← can_eq hda]; rfl
    · replace h2 := of_decide_eq_false h2
      obtain ⟨u, hue⟩ : ∃ u, u = ofNat (val a * scl b) := ⟨_, rfl⟩
      obtain ⟨v, hve⟩ : ∃ v, v = ofNat (val b * scl b) := ⟨_, rfl⟩
      have hu : Dig u := by rw [hue]; exact ofNat_dig _
      have hcv : Cano v := by rw [hve]; exact ofNat_can _
      have hvd := hcv.1
      have hvl : v.length = b.length := by rw [hve]; exact scl_len hdb hb0
      have hvv : val v = val b * scl b := by rw [hve]; exact ofNat_val _
      have huv : val u = val a * scl b := by rw [hue]; exact ofNat_val _
      have hab := len_of_le hda hdb (cmpI_nn h2)
      have hul : a.length ≤ u.length ∧ u.length ≤ a.length + 1 := by rw [hue]; exact scl_lenA hda hdb hb0
      have hvp := len_pos_val hcv (by omega)
      have hpv : pw (b.length - 1) ≤ val v := by have h1 := val_top hvd (by omega); have h3 := top_pos hcv (by omega); rw [hvl] at h1 h3; have h2 := Nat.mul_le_mul_right (pw (b.length - 1)) h3.1; omega
      refine pwp_skip <| pwp_seq <| kx [(9, (vqn (scl b)))] [] (zM <| zM <| zE (oSb (b.length - 1)) <| zE (oXl el38 (b.length - 1) (0 : Nat)) <| zE (oC1 sh152) <| zE (oCv un152 in154 (b.getD (b.length - 1) 0)) <| zE (oAd ((b.getD (b.length - 1) 0) + 1)) <| zE (oQu (scl b) (hr := by exact (quo_u64 1000000000 (b.getD (b.length - 1) 0 + 1) (by decide)))) <| zM <| zZ) ?_
      refine pwp_seq <| kx [(0, (vl 152 1 enc_u32 u)), (1, (vl 152 1 enc_u32 v))] [] (zM <| zM <| zE (oCl (hue ▸ r_scaled a (scl b) hda.1 (by omega) (by omega))) <| zM <| zM <| zE (oCl (hve ▸ r_scaled b (scl b) hdb.1 (by omega) (by omega))) <| zM <| zM <| zZ) ?_
      refine pwp_seq <| kx [(10, (vl 152 1 enc_u32 (ofNat (val (List.drop ((u.length - b.length) + 1) u)))))] [] (zM <| zM <| zE (oLm el38) <| zM <| zE (oSb (u.length - b.length)) <| zE (oAd ((u.length - b.length) + 1)) <| zE (e_slc (l := ((u.length - b.length) + 1)) (h := (List.map enc_u32 u).length) (kl := .i64) (kh := .i64) (es' := List.map enc_u32 (List.drop ((u.length - b.length) + 1) u)) (by exact rfl) el38 (by exact rfl) (by exact rfl) (by exact rfl) (by simp only [List.length_map]; omega) (Nat.le_refl _) (by rw [List.take_length, List.map_drop])) <| zE (oCl (r_made false (List.drop ((u.length - b.length) + 1) u) (hu.drop _) (by rw [List.length_drop]; omega))) <| zE (oF1 ft40_1 sh38) <| zM <| zZ) ?_
      refine pwp_seq <| kx [(11, (.own 0 152 1 ((u.length - b.length) + 1)))] [(0, some (bm enc_u32 (List.replicate ((u.length - b.length) + 1) 0)))] (zM <| zE (oLm el38) <| zM <| zE (oSb (u.length - b.length)) <| zE (oAd ((u.length - b.length) + 1)) <| zN (oMk 0 enc_u32 (0 : Nat) ((u.length - b.length) + 1) ((u.length - b.length) + 1) el38 ze152 zo152 by152) <| zM <| zZ) ?_
      refine pwp_seq <| pwp_seq <| kx [(12, (vi ((((u.length - b.length) + 1 : Nat) : Int) - 1)))] [] (zM <| zE (oLm el38) <| zM <| zE (zSb ((((u.length - b.length) + 1 : Nat) : Int) - 1)) <| zM <| zZ) ?_
      refine pwp_block <| pwp_loop (α := Nat × List Nat × List Nat) (fun (k, r, q) => ⟨[(0, (vl 152 1 enc_u32 u)), (1, (vl 152 1 enc_u32 v)), (6, (vin b.length)), (9, (vqn (scl b))), (10, (vl 152 1 enc_u32 r)), (11, (.own 0 152 1 ((u.length - b.length) + 1))), (12, (vi (((k : Nat) : Int) - 1)))], [(0, some (bm enc_u32 q))]⟩) (fun (k, r, q) => Cano r ∧ k ≤ ((u.length - b.length) + 1) ∧ q.length = ((u.length - b.length) + 1) ∧ Dig q ∧ val r < val v ∧ val (u.drop k) = val v * val (q.drop k) + val r) (fun (k, r, q) => k) (((u.length - b.length) + 1), ofNat (val (List.drop ((u.length - b.length) + 1) u)), List.replicate ((u.length - b.length) + 1) 0) wk ⟨ofNat_can _, Nat.le_refl _, by simp, dig_replicate _, by rw [ofNat_val]; have h7 := val_lt (hu.drop ((u.length - b.length) + 1)); rw [List.length_drop, show u.length - ((u.length - b.length) + 1) = b.length - 1 by omega] at h7; omega, by rw [ofNat_val]; simp [val]⟩ ?_
      rintro ⟨k, r, q⟩ ⟨hrc, hk, hql, hqd, hr, hv⟩
      refine pwp_seq <| pwp_seq <| kx [(75, (vb (decide (0 ≤ (((k : Nat) : Int) - 1)))))] [] (zM <| zE oGe <| zZ) ?_
      refine pwp_cond (b := decide (0 ≤ (((k : Nat) : Int) - 1))) rfl (fun h3 => ?_) (fun h3 => ?_)
      · replace h3 := of_decide_eq_true h3
        obtain ⟨i, rfl⟩ : ∃ i, k = i + 1 := ⟨k - 1, by omega⟩
        rw [show (((i + 1 : Nat) : Int) - 1) = ((i : Nat) : Int) from by omega]
        have hgu := hu.getD i
        have hW : (u.getD i 0 + 1000000000 * val r) < 1000000000 * val v := by omega
        have hrs := rshift_val u hv
        obtain ⟨hg1, hg2⟩ := rguess hvd hvl hb0 hW
        have hgv := hvd.getD (b.length - 1)
        have hgw1 := (ofNat_dig (u.getD i 0 + 1000000000 * val r)).getD b.length
        have hgw2 := (ofNat_dig (u.getD i 0 + 1000000000 * val r)).getD (b.length - 1)
        have hrl : r.length ≤ b.length := by have h9 := ofNat_len_mono (Nat.le_of_lt hr); rwa [← can_eq hrc, ← can_eq hcv, hvl] at h9
        have hwl : (ofNat (u.getD i 0 + 1000000000 * val r)).length ≤ b.length + 1 := ofNat_length_le (by rw [pw_succ]; have := val_lt hvd; rw [hvl] at this; omega)
        refine pwp_skip <| pwp_seq <| pwp_block <| pwp_seq <| kx [(10, (vl 152 1 enc_u32 (ofNat ((u.getD i 0) + 1000000000 * val r)))), (12, (vin i))] [] (zM <| zM <| zM <| zE (oXl el38 i (0 : Nat)) <| zE (oC1 sh152) <| zE (oCl (r_shifted r (u.getD i 0) hrc.1 (by omega) (by omega))) <| zM <| zZ) ?_
        refine pwp_seq <| kd [(13, (vqn (((((ofNat ((u.getD i 0) + 1000000000 * val r)).getD b.length 0) * 1000000000) + ((ofNat ((u.getD i 0) + 1000000000 * val r)).getD (b.length - 1) 0)) / ((v.getD (b.length - 1) 0) + 1))))] [] mo (wM <| wM <| wE (oCl (r_group (ofNat ((u.getD i 0) + 1000000000 * val r)) b.length (ofNat_dig _))) <| wE (oMl (((ofNat ((u.getD i 0) + 1000000000 * val r)).getD b.length 0) * 1000000000)) <| wM <| wM <| wE (oSb (b.length - 1)) <| wE (oCl (r_group (ofNat ((u.getD i 0) + 1000000000 * val r)) (b.length - 1) (by first | assumption | exact ofNat_dig _ | exact (ofNat_can _).1 | exact (grpI_can _).1))) <| wE (oAd ((((ofNat ((u.getD i 0) + 1000000000 * val r)).getD b.length 0) * 1000000000) + ((ofNat ((u.getD i 0) + 1000000000 * val r)).getD (b.length - 1) 0))) <| wM <| wM <| wE (oSb (b.length - 1)) <| wE (oXl el38 (b.length - 1) (0 : Nat)) <| wE (oC1 sh152) <| wE (oCv un152 in154 (v.getD (b.length - 1) 0)) <| wE (oAd ((v.getD (b.length - 1) 0) + 1)) <| wE (oQu (((((ofNat ((u.getD i 0) + 1000000000 * val r)).getD b.length 0) * 1000000000) + ((ofNat ((u.getD i 0) + 1000000000 * val r)).getD (b.length - 1) 0)) / ((v.getD (b.length - 1) 0) + 1))) <| wM <| wZ) ?_
        refine pwp_seq <| kx [(10, (vl 152 1 enc_u32 (ofNat (val (ofNat ((u.getD i 0) + 1000000000 * val r)) - val (ofNat (val v * (((((ofNat ((u.getD i 0) + 1000000000 * val r)).getD b.length 0) * 1000000000) + ((ofNat ((u.getD i 0) + 1000000000 * val r)).getD (b.length - 1) 0)) / ((v.getD (b.length - 1) 0) + 1))))))))] [] (zM <| zM <| zM <| zE (oCl (r_scaled v (((((ofNat ((u.getD i 0) + 1000000000 * val r)).getD b.length 0) * 1000000000) + ((ofNat ((u.getD i 0) + 1000000000 * val r)).getD (b.length - 1) 0)) / ((v.getD (b.length - 1) 0) + 1)) hvd (by omega) (by omega))) <| zE (oCl (r_minus (ofNat ((u.getD i 0) + 1000000000 * val r)) (ofNat (val v * (((((ofNat ((u.getD i 0) + 1000000000 * val r)).getD b.length 0) * 1000000000) + ((ofNat ((u.getD i 0) + 1000000000 * val r)).getD (b.length - 1) 0)) / ((v.getD (b.length - 1) 0) + 1)))) (ofNat_dig _) (ofNat_dig _) (by rw [ofNat_val, ofNat_val, Nat.mul_comm]; exact hg1) (by omega))) <| zM <| zZ) ?_
        refine pwp_seq <| pwp_block <| pwp_loop (α := Nat × List Nat) (fun (G, r2) => ⟨[(0, (vl 152 1 enc_u32 u)), (1, (vl 152 1 enc_u32 v)), (6, (vin b.length)), (9, (vqn (scl b))), (10, (vl 152 1 enc_u32 r2)), (11, (.own 0 152 1 ((u.length - b.length) + 1))), (12, (vin i)), (13, (vqn G))], [(0, some (bm enc_u32 q))]⟩) (fun (G, r2) => Cano r2 ∧ val v * G + val r2 = (u.getD i 0 + 1000000000 * val r)) (fun (G, r2) => val r2) ((((ofNat (u.getD i 0 + 1000000000 * val r)).getD b.length 0 * 1000000000 + (ofNat (u.getD i 0 + 1000000000 * val r)).getD (b.length - 1) 0) / (v.getD (b.length - 1) 0 + 1)), ofNat (val (ofNat (u.getD i 0 + 1000000000 * val r)) - val (ofNat (val v * (((ofNat (u.getD i 0 + 1000000000 * val r)).getD b.length 0 * 1000000000 + (ofNat (u.getD i 0 + 1000000000 * val r)).getD (b.length - 1) 0) / (v.getD (b.length - 1) 0 + 1)))))) wk ⟨ofNat_can _, by rw [ofNat_val, ofNat_val, ofNat_val]; rw [Nat.mul_comm] at hg1; omega⟩ ?_
        rintro ⟨G, r2⟩ ⟨hr2, hr2v⟩
        have hr2l : r2.length ≤ b.length + 1 := by have h9 := ofNat_len_mono (show val r2 ≤ (u.getD i 0 + 1000000000 * val r) by omega); rw [← can_eq hr2] at h9; omega
        refine pwp_seq <| pwp_seq <| kx [(109, (vb (decide (0 ≤ (cmpI ((val r2 : Nat) : Int) ((val v : Nat) : Int))))))] [] (zM <| zM <| zE (oCl (r_size r2 v hr2 hcv (by omega) (by omega))) <| zE oGe <| zZ) ?_
        refine pwp_cond rfl (fun h4 => ?_) (fun h4 => ?_)
        · replace h4 := of_decide_eq_true h4
          have hge := cmpI_ge h4
          have hG := rquo_lt hr2v hW
          have hr2l : r2.length ≤ b.length + 1 := by have h9 := ofNat_len_mono (show val r2 ≤ (u.getD i 0 + 1000000000 * val r) by omega); rw [← can_eq hr2] at h9; omega
          refine pwp_skip <| pwp_block <| pwp_seq <| kx [(10, (vl 152 1 enc_u32 (ofNat (val r2 - val v))))] [] (zM <| zM <| zE (oCl (r_minus r2 v hr2.1 hvd (by omega) (by omega))) <| zM <| zZ) ?_
          refine kx [(13, (vqn (G + 1)))] [] (zM <| zE (oAd (G + 1)) <| zM <| zZ) ?_
          exact ⟨(G + 1, ofNat (val r2 - val v)), wk, (by have hge := cmpI_ge h4; exact ⟨ofNat_can _, by rw [ofNat_val, Nat.mul_add, Nat.mul_one]; omega⟩), (by have hge := cmpI_ge h4; dsimp only; rw [ofNat_val]; omega)⟩
        · replace h4 := of_decide_eq_false h4
          have hG := rquo_lt hr2v hW
          have hlt : val r2 < val v := by have h9 := cmpI_lt h4; omega
          refine pwp_exit <| kx [] [(0, some (bm enc_u32 (q.set i G)))] (zM <| zM <| zM <| zE (oCv un154 in152 G) <| zE (oXo el38 i) <| zT (oSp sh152 i G) <| zZ) ?_
          refine kx [(12, (vi (((i : Nat) : Int) - 1)))] [] (zM <| zE (zSb (((i : Nat) : Int) - 1)) <| zM <| zZ) ?_
          exact ⟨(i, r2, q.set i G), wk, ⟨hr2, by omega, by simpa using hql, hqd.set _ hG, hlt, rround (by omega) (by rw [hr2v]; exact hrs)⟩, (by first | omega | (dsimp only; omega))⟩
      · replace h3 := of_decide_eq_false h3
        obtain rfl : k = 0 := by omega
        obtain ⟨e1, e2⟩ := scl_div (a := a) (b := b) (q := q) (u := r) hdb hb0 (by rw [List.drop_zero, List.drop_zero] at hv; rw [pw_zero, Nat.one_mul, List.drop_zero, ← huv, ← hvv, hv]; omega) (by rw [List.drop_zero, ← hvv]; exact hr)
        have hrl : r.length ≤ b.length := by have h9 := ofNat_len_mono (Nat.le_of_lt hr); rwa [← can_eq hrc, ← can_eq hcv, hvl] at h9
        refine pwp_exit <| pwp_seq <| kx [(14, (vl 152 1 enc_u32 (ofNat (val r / (scl b)))))] [] (zM <| zM <| zE (oCl (r_short r (scl b) hrc.1 (by omega) (by omega) (by omega))) <| zM <| zE oEx <| zE oEx <| zM <| zM <| zZ) ?_
        refine pwp_seq <| pwp_sim (publish (t := 11) (k := 0) (es := List.map enc_u32 q) rfl rfl (pub_cells _ _ (fun _ => rfl)) (map_len _ _ hql) (pub_take _ _ (fun _ => rfl) hql)) ?_
        refine kx [(4, (vl 152 1 enc_u32 (ofNat (val q)))), (5, (vl 152 1 enc_u32 (ofNat (val r / (scl b)))))] [] (zM <| zE (oCl (r_made false q hqd (by omega))) <| zE (oF1 ft40_1 sh38) <| zM <| zM <| zM <| zZ) ?_
        refine pwp_ret ⟨_, (.tmp (d := (.sl 152 1 (List.map enc_u32 (ofNat (val q))))) rfl (.tmp (d := (.sl 152 1 (List.map enc_u32 (ofNat (val r / (scl b)))))) rfl .nil)), ?_⟩
        rw [← e1, ← e2]; rfl
end Go.Proofs.YtbecgnplakngdaaGreat
namespace Go.Proofs.YtbecgnplakngdaaGreat
open Go.Fid
set_option maxRecDepth 4000
set_option linter.unusedVariables false
set_option linter.unusedSimpArgs false
theorem cb109 : callB Tryz.prog 109 = true := by kernel_rfl
theorem cb110 : callB Tryz.prog 110 = true := by kernel_rfl
theorem cb136 : callB Tryz.prog 136 = true := by kernel_rfl
theorem r_gcd (x : RInt) (y : RInt) (hx : x.gs.length ≤ 1099511627776) (hy : y.gs.length ≤ 1099511627776) : Takes Tryz.prog 110 [(encI x), (encI y)] (encI (ofZ ((Int.gcd (toZ x) (toZ y) : Nat) : Int))) := by
  have hvx := gs_val2 x
  have hvy := gs_val2 y
  refine fn_intro Tryz.func110 rfl cb110 rfl ?_
  show PWp _ _ _ _ ⟨[(0, (.d (encI x))), (1, (.d (encI y)))], []⟩
  refine pwp_seq <| kx [(2, (.ref 0 0)), (3, (.ref 1 0)), (4, (.ref 2 0))] [(0, some (bx (encI x))), (1, some (bx (encI y))), (2, some (bx (encI (RInt.mk false []))))] (zN (oBx 0) <| zN (oBx 1) <| zN (oAl 2 ze40 zo40) <| zZ) ?_
  refine pwp_seq <| kd [(5, (vl 152 1 enc_u32 (ofNat (Int.natAbs (toZ x))))), (6, (vl 152 1 enc_u32 (ofNat (Int.natAbs (toZ y)))))] [] mo (wR (oLa sh40) <| wE (oCl (r_value x (by omega))) <| wE (oF1 ft40_1 sh38) <| wR (oLa sh40) <| wE (oCl (r_value y (by omega))) <| wE (oF1 ft40_1 sh38) <| wM <| wM <| wZ) ?_
  refine pwp_seq <| pwp_block <| pwp_loop (α := List Nat × List Nat) (fun (a, b) => ⟨[(4, (.ref 2 0)), (5, (vl 152 1 enc_u32 a)), (6, (vl 152 1 enc_u32 b))], [(2, some (bx (encI (RInt.mk false []))))]⟩) (fun (a, b) => Cano a ∧ Cano b ∧ a.length ≤ 1099511627776 ∧ b.length ≤ 1099511627776 ∧ Nat.gcd (val a) (val b) = Int.gcd (toZ x) (toZ y)) (fun (a, b) => val b) ((ofNat (Int.natAbs (toZ x))), (ofNat (Int.natAbs (toZ y)))) wk ⟨ofNat_can _, ofNat_can _, by omega, by omega, by rw [ofNat_val, ofNat_val]; rfl⟩ ?_
  rintro ⟨a, b⟩ ⟨ha, hb, hla, hlb, hg⟩
  refine pwp_seq <| pwp_seq <| kx [(29, (vb (decide (0 < ((b.length : Nat) : Int)) && (decide (2 < ((a.length : Nat) : Int)) || decide (2 < ((b.length : Nat) : Int))))))] [] ?_ ?_
  · refine zM <| zE (oLm el38) <| zE oGt <| zE (oV (vb (decide (0 < ((b.length : Nat) : Int)))) (mv_ok (by kernel_rfl))) <| ?_
    rcases hb1 : (decide (0 < ((b.length : Nat) : Int))) with _ | _
    · replace hb1 := of_decide_eq_false hb1
      exact zK <| zK <| zK <| zK <| zK <| zK <| zK <| zK <| zE oPf <| zZ
    · replace hb1 := of_decide_eq_true hb1
      refine zM <| zE (oLm el38) <| zE oGt <| zE (oV (vb (decide (2 < ((a.length : Nat) : Int)))) (mv_ok (by kernel_rfl))) <| ?_
      rcases hb2 : (decide (2 < ((a.length : Nat) : Int))) with _ | _
      · replace hb2 := of_decide_eq_false hb2
        exact zM <| zE (oLm el38) <| zE oGt <| zE oPo <| zE oPa <| zZ
      · replace hb2 := of_decide_eq_true hb2
        exact zK <| zK <| zK <| zE oPt <| zE oPt <| zZ
  refine pwp_cond rfl (fun h3 => ?_) (fun h3 => ?_)
  · have hbl : 0 < b.length := by rw [Bool.and_eq_true, decide_eq_true_eq] at h3; omega
    have hb0 := len_pos_val hb hbl
    refine pwp_skip <| pwp_block <| pwp_seq <| kx [(8, (vl 152 1 enc_u32 (ofNat (val a % val b))))] [] (zM <| zM <| zE (oCl (r_parts a b ha hb (by omega) (by omega) (by omega))) <| zM <| zE oEx <| zE oEx <| zM <| zM <| zZ) ?_
    refine kx [(5, (vl 152 1 enc_u32 b)), (6, (vl 152 1 enc_u32 (ofNat (val a % val b))))] [] (zM <| zM <| zM <| zM <| zZ) ?_
    exact ⟨(b, ofNat (val a % val b)), wk, ⟨hb, ofNat_can _, hlb, Nat.le_trans (len_rem a ha _) hla, by rw [ofNat_val, ← hg, Nat.gcd_comm, ← Nat.gcd_rec, Nat.gcd_comm]⟩, (by dsimp only; rw [ofNat_val]; exact Nat.mod_lt _ hb0)⟩
  · have hex := h3
    refine pwp_exit <| pwp_seq <| pwp_seq <| kx [(40, (vb (((b.length : Nat) : Int) == 0)))] [] (zM <| zE (oLm el38) <| zE oEq <| zZ) ?_
    refine pwp_cond (b := (((b.length : Nat) : Int) == 0)) rfl (fun h4 => ?_) (fun h4 => ?_)
    · replace h4 := eq_of_beq h4
      have hb1 : b = [] := List.eq_nil_of_length_eq_zero (by omega)
      rw [hb1, val_nil, Nat.gcd_zero_right] at hg
      refine pwp_seq <| kx [] [(2, some (bx (encI (mkI false (val a)))))] (zM <| zE (oCl (r_made false a ha.1 (by omega))) <| zT (oSt sh40) <| zZ) ?_
      refine pwp_ret ⟨_, (res_a (cs := (bx (encI (mkI false (val a))))) (d := (encI (mkI false (val a)))) rfl rfl sh40 rfl rfl .nil), ?_⟩
      rw [← hg, mkI_false]; rfl
    · replace h4 := ne_of_beq_false h4
      have hl2 : a.length ≤ 2 ∧ b.length ≤ 2 := by simp only [Bool.and_eq_false_iff, Bool.or_eq_false_iff, decide_eq_false_iff_not] at hex; omega
      refine pwp_skip <| pwp_seq <| kx [(9, (vqn (val a))), (10, (vqn (val b)))] [] (zM <| zE (oCl (r_pair a ha.1 (by omega))) <| zM <| zE (oCl (r_pair b hb.1 (by omega))) <| zM <| zM <| zZ) ?_
      refine pwp_seq <| pwp_block <| pwp_loop (α := Nat × Nat) (fun (m, n) => ⟨[(4, (.ref 2 0)), (9, (vqn m)), (10, (vqn n))], [(2, some (bx (encI (RInt.mk false []))))]⟩) (fun (m, n) => m < 1000000000000000000 ∧ n < 1000000000000000000 ∧ Nat.gcd m n = Int.gcd (toZ x) (toZ y)) (fun (m, n) => n) (val a, val b) wk ⟨val_len2 ha.1 hl2.1, val_len2 hb.1 hl2.2, hg⟩ ?_
      rintro ⟨m, n⟩ ⟨hm, hn, hg2⟩
      refine pwp_seq <| pwp_seq <| kx [(48, (vb (decide (0 < ((n : Nat) : Int)))))] [] (zM <| zE oGt <| zZ) ?_
      refine pwp_cond (b := decide (0 < ((n : Nat) : Int))) rfl (fun h5 => ?_) (fun h5 => ?_)
      · replace h5 := of_decide_eq_true h5
        refine pwp_skip <| pwp_block <| kd [(9, (vqn n)), (10, (vqn (m % n)))] [] mo (wM <| wM <| wM <| wE (oRe (m % n)) <| wM <| wM <| wZ) ?_
        exact ⟨(n, m % n), wk, ⟨hn, Nat.lt_of_le_of_lt (Nat.mod_le _ _) hm, by rw [← hg2, Nat.gcd_comm, ← Nat.gcd_rec, Nat.gcd_comm]⟩, (by dsimp only; exact Nat.mod_lt _ (by omega))⟩
      · replace h5 := of_decide_eq_false h5
        obtain rfl : n = 0 := by omega
        rw [Nat.gcd_zero_right] at hg2
        have hmv : val [m % 1000000000, m / 1000000000] = m := by simp only [val]; omega
        refine pwp_exit <| pwp_seq <| kx [] [(2, some (bx (encI (mkI false (val [(m % 1000000000), (m / 1000000000)])))))] (zM <| zE (oRe (m % 1000000000)) <| zE (oCv un154 in152 (m % 1000000000)) <| zM <| zE (oQu (m / 1000000000)) <| zE (oCv un154 in152 (m / 1000000000)) <| zE (oBs el38 ze152 zo152) <| zE (oCl (r_made false [(m % 1000000000), (m / 1000000000)] (dig_cons.2 ⟨Nat.mod_lt _ (by decide), dig_cons.2 ⟨by omega, dig_nil⟩⟩) (by simp))) <| zT (oSt sh40) <| zZ) ?_
        refine pwp_ret ⟨_, (res_a (cs := (bx (encI (mkI false (val [(m % 1000000000), (m / 1000000000)]))))) (d := (encI (mkI false (val [(m % 1000000000), (m / 1000000000)])))) rfl rfl sh40 rfl rfl .nil), ?_⟩
        rw [← hg2, hmv, mkI_false]; rfl
theorem r_compare (x : RInt) (y : RInt) (hx : x.gs.length ≤ 274877906944) (hy : y.gs.length ≤ 274877906944) : Takes Tryz.prog 109 [(encI x), (encI y)] (.val (.int .i64 ((cmpI (toZ x) (toZ y))))) := by
  have hv := gs_sub x y
  refine fn_intro Tryz.func109 rfl cb109 rfl ?_
  show PWp _ _ _ _ ⟨[(0, (.d (encI x))), (1, (.d (encI y)))], []⟩
  refine pwp_seq <| kx [(2, (.ref 0 0)), (3, (.ref 1 0))] [(0, some (bx (encI x))), (1, some (bx (encI y)))] (zN (oBx 0) <| zN (oBx 1) <| zM <| zZ) ?_
  refine pwp_seq <| kx [(4, (vi (signI (toZ (ofZ (toZ x - toZ y))))))] [] (zR (oLa sh40) <| zR (oLa sh40) <| zE (oCl (r_sub x y (by omega) (by omega))) <| zE (oCl (r_sign (ofZ (toZ x - toZ y)) (by omega))) <| zM <| zZ) ?_
  refine pwp_ret ⟨_, (.tmp (d := (.val (.int .i64 ((signI (toZ (ofZ (toZ x - toZ y)))))))) rfl .nil), ?_⟩
  rw [toZ_ofZ, signI_sub]; rfl
theorem r_divide (x : RInt) (y : RInt) (hx : x.gs.length ≤ 274877906944) (hy : y.gs.length ≤ 274877906944) (hy0 : toZ y ≠ 0) : Takes Tryz.prog 136 [(encI x), (encI y)] (.tup [(encI (ofZ ((toZ x).fdiv (toZ y)))), (encI (ofZ ((toZ x).fmod (toZ y)))), (.val (.int .i64 (0)))]) := by
  have hvx := gs_val2 x
  have hvy := gs_val2 y
  have hmx := gs_val x
  have hmy := gs_val y
  have hy1 : 0 < (toZ y).natAbs := by omega
  have hyl := ofNat_len_pos hy1
  have hql : (ofNat (val (ofNat (Int.natAbs (toZ x))) / val (ofNat (Int.natAbs (toZ y))))).length ≤ 274877906944 := by have := len_quo (ofNat (Int.natAbs (toZ x))) (ofNat_can _) (val (ofNat (Int.natAbs (toZ y)))); omega
  have hqg : (mkI (!((ofZ (toZ x)).neg == (ofZ (toZ y)).neg)) (val (ofNat (val (ofNat (Int.natAbs (toZ x))) / val (ofNat (Int.natAbs (toZ y))))))).gs.length ≤ 274877906944 := by show (ofNat (val (ofNat (val (ofNat (Int.natAbs (toZ x))) / val (ofNat (Int.natAbs (toZ y))))))).length ≤ _; rw [ofNat_val]; exact hql
  have hone : (ofZ 1).gs.length ≤ 1 := (iok_small (z := 1) (by decide)).l
  have hqs := gs_sub (mkI (!((ofZ (toZ x)).neg == (ofZ (toZ y)).neg)) (val (ofNat (val (ofNat (Int.natAbs (toZ x))) / val (ofNat (Int.natAbs (toZ y))))))) (ofZ 1)
  refine fn_intro Tryz.func136 rfl cb136 rfl ?_
  show PWp _ _ _ _ ⟨[(0, (.d (encI x))), (1, (.d (encI y)))], []⟩
  refine pwp_seq <| kx [(2, (.ref 0 0)), (3, (.ref 1 0)), (4, (.ref 2 0)), (5, (.ref 3 0))] [(0, some (bx (encI x))), (1, some (bx (encI y))), (2, some (bx (encI (RInt.mk false [])))), (3, some (bx (encI (RInt.mk false []))))] (zN (oBx 0) <| zN (oBx 1) <| zN (oAl 2 ze40 zo40) <| zN (oAl 3 ze40 zo40) <| zM <| zZ) ?_
  refine pwp_seq <| kd [] [(0, some (bx (encI (ofZ (toZ x))))), (1, some (bx (encI (ofZ (toZ y)))))] mo (wR (oLa sh40) <| wE (oCl (r_value x (by omega))) <| wR (oLa sh40) <| wE (oCl (r_value y (by omega))) <| wT (oSt sh40) <| wT (oSt sh40) <| wZ) ?_
  refine pwp_seq <| pwp_seq <| kx [(17, (vb ((((ofNat (Int.natAbs (toZ y))).length : Nat) : Int) == 0)))] [] (zE (oFr fo40_1) <| zR (oL1 sh38) <| zE (oLm el38 (L := (ofNat (Int.natAbs (toZ y))))) <| zE oEq <| zZ) ?_
  refine pwp_cond rfl (fun h1 => ?_) (fun h1 => ?_)
  · replace h1 := eq_of_beq h1
    exact absurd h1 (by omega)
  · replace h1 := ne_of_beq_false h1
    refine pwp_skip <| pwp_seq <| kx [(7, (vl 152 1 enc_u32 (ofNat (val (ofNat (Int.natAbs (toZ x))) / val (ofNat (Int.natAbs (toZ y))))))), (8, (vl 152 1 enc_u32 (ofNat (val (ofNat (Int.natAbs (toZ x))) % val (ofNat (Int.natAbs (toZ y)))))))] [] (zE (oFr fo40_1) <| zR (oL1 sh38) <| zE (oFr fo40_1) <| zR (oL1 sh38) <| zE (oCl (r_parts (ofNat (Int.natAbs (toZ x))) (ofNat (Int.natAbs (toZ y))) (by first | assumption | exact ofNat_can _ | exact grpI_can _) (by first | assumption | exact ofNat_can _ | exact grpI_can _) (by omega) (by omega) (by omega))) <| zM <| zE oEx <| zE oEx <| zM <| zM <| zZ) ?_
    refine pwp_seq <| kx [(9, (.ref 4 0))] [(4, some (bx (encI (mkI (!(((ofZ (toZ x)).neg) == ((ofZ (toZ y)).neg))) (val (ofNat (val (ofNat (Int.natAbs (toZ x))) / val (ofNat (Int.natAbs (toZ y))))))))))] (zE (oFr fo40_0) <| zR (oL1 sh4) <| zE (oFr fo40_0) <| zR (oL1 sh4) <| zE (oNb bo4) <| zM <| zE (oCl (r_made (!(((ofZ (toZ x)).neg) == ((ofZ (toZ y)).neg))) (ofNat (val (ofNat (Int.natAbs (toZ x))) / val (ofNat (Int.natAbs (toZ y))))) (ofNat_dig _) (by omega))) <| zN (oAl 4 ze40 zo40) <| zT (oSt sh40) <| zZ) ?_
    refine pwp_seq <| pwp_seq <| kx [(44, (vb (!(((ofZ (toZ x)).neg) == ((ofZ (toZ y)).neg)) && decide (0 < (((ofNat (val (ofNat (Int.natAbs (toZ x))) % val (ofNat (Int.natAbs (toZ y))))).length : Nat) : Int)))))] [] ?_ ?_
    · refine zE (oFr fo40_0) <| zR (oL1 sh4) <| zE (oFr fo40_0) <| zR (oL1 sh4) <| zE (oNb bo4) <| zE (oV (vb (!(((ofZ (toZ x)).neg) == ((ofZ (toZ y)).neg)))) (mv_ok (by kernel_rfl))) <| ?_
      rcases hb2 : (!(((ofZ (toZ x)).neg) == ((ofZ (toZ y)).neg))) with _ | _
      · exact zK <| zK <| zK <| zE oPf <| zZ
      · exact zM <| zE (oLm el38 (L := (ofNat (val (ofNat (Int.natAbs (toZ x))) % val (ofNat (Int.natAbs (toZ y))))))) <| zE oGt <| zE oPa <| zZ
    refine pwp_cond rfl (fun h3 => ?_) (fun h3 => ?_)
    · have hqm := gs_mul (ofZ (toZ (mkI (!((ofZ (toZ x)).neg == (ofZ (toZ y)).neg)) (val (ofNat (val (ofNat (Int.natAbs (toZ x))) / val (ofNat (Int.natAbs (toZ y))))))) - toZ (ofZ 1))) (ofZ (toZ y))
      have hk := r_div_other (X := toZ x) (Y := toZ y) hy1 (by rw [Bool.and_eq_true, Bool.not_eq_true', beq_eq_false_iff_ne, decide_eq_true_eq] at h3; exact h3)
      refine kd [] [(4, some (bx (encI (ofZ (toZ (mkI (!(((ofZ (toZ x)).neg) == ((ofZ (toZ y)).neg))) (val (ofNat (val (ofNat (Int.natAbs (toZ x))) / val (ofNat (Int.natAbs (toZ y))))))) - toZ (ofZ 1))))))] mo (wR (oLa sh40) <| wE (oCl (r_of 1 (by omega) (by omega))) <| wE (oCl (r_sub (mkI (!(((ofZ (toZ x)).neg) == ((ofZ (toZ y)).neg))) (val (ofNat (val (ofNat (Int.natAbs (toZ x))) / val (ofNat (Int.natAbs (toZ y))))))) (ofZ 1) (by omega) (by omega))) <| wT (oSt sh40) <| wZ) ?_
      refine pwp_seq <| kd [(6, (vin 0))] [(2, some (bx (encI (ofZ (toZ (mkI (!(((ofZ (toZ x)).neg) == ((ofZ (toZ y)).neg))) (val (ofNat (val (ofNat (Int.natAbs (toZ x))) / val (ofNat (Int.natAbs (toZ y))))))) - toZ (ofZ 1)))))), (3, some (bx (encI (ofZ (toZ (ofZ (toZ x)) - toZ (ofZ (toZ (ofZ (toZ (mkI (!(((ofZ (toZ x)).neg) == ((ofZ (toZ y)).neg))) (val (ofNat (val (ofNat (Int.natAbs (toZ x))) / val (ofNat (Int.natAbs (toZ y))))))) - toZ (ofZ 1))) * toZ (ofZ (toZ y)))))))))] mo (wR (oLa sh40) <| wR (oLa sh40) <| wR (oLa sh40) <| wR (oLa sh40) <| wE (oCl (r_mul (ofZ (toZ (mkI (!(((ofZ (toZ x)).neg) == ((ofZ (toZ y)).neg))) (val (ofNat (val (ofNat (Int.natAbs (toZ x))) / val (ofNat (Int.natAbs (toZ y))))))) - toZ (ofZ 1))) (ofZ (toZ y)) (by omega) (by omega))) <| wE (oCl (r_sub (ofZ (toZ x)) (ofZ (toZ (ofZ (toZ (mkI (!(((ofZ (toZ x)).neg) == ((ofZ (toZ y)).neg))) (val (ofNat (val (ofNat (Int.natAbs (toZ x))) / val (ofNat (Int.natAbs (toZ y))))))) - toZ (ofZ 1))) * toZ (ofZ (toZ y)))) (by omega) (by omega))) <| wT (oSt sh40) <| wT (oSt sh40) <| wM <| wZ) ?_
      refine pwp_ret ⟨_, (res_a (cs := (bx (encI (ofZ (toZ (mkI (!(((ofZ (toZ x)).neg) == ((ofZ (toZ y)).neg))) (val (ofNat (val (ofNat (Int.natAbs (toZ x))) / val (ofNat (Int.natAbs (toZ y))))))) - toZ (ofZ 1)))))) (d := (encI (ofZ (toZ (mkI (!(((ofZ (toZ x)).neg) == ((ofZ (toZ y)).neg))) (val (ofNat (val (ofNat (Int.natAbs (toZ x))) / val (ofNat (Int.natAbs (toZ y))))))) - toZ (ofZ 1))))) rfl rfl sh40 rfl rfl (res_a (cs := (bx (encI (ofZ (toZ (ofZ (toZ x)) - toZ (ofZ (toZ (ofZ (toZ (mkI (!(((ofZ (toZ x)).neg) == ((ofZ (toZ y)).neg))) (val (ofNat (val (ofNat (Int.natAbs (toZ x))) / val (ofNat (Int.natAbs (toZ y))))))) - toZ (ofZ 1))) * toZ (ofZ (toZ y))))))))) (d := (encI (ofZ (toZ (ofZ (toZ x)) - toZ (ofZ (toZ (ofZ (toZ (mkI (!(((ofZ (toZ x)).neg) == ((ofZ (toZ y)).neg))) (val (ofNat (val (ofNat (Int.natAbs (toZ x))) / val (ofNat (Int.natAbs (toZ y))))))) - toZ (ofZ 1))) * toZ (ofZ (toZ y)))))))) rfl rfl sh40 rfl rfl (.tmp (d := (.val (.int .i64 (0)))) rfl .nil))), ?_⟩
      rw [hk, r_rem_eq]; rfl
    · have hqm := gs_mul (mkI (!((ofZ (toZ x)).neg == (ofZ (toZ y)).neg)) (val (ofNat (val (ofNat (Int.natAbs (toZ x))) / val (ofNat (Int.natAbs (toZ y))))))) (ofZ (toZ y))
      have hk := r_div_same (X := toZ x) (Y := toZ y) hy1 (by rw [Bool.and_eq_false_iff, Bool.not_eq_false', beq_iff_eq, decide_eq_false_iff_not] at h3; exact h3)
      refine pwp_skip <| pwp_seq <| kd [(6, (vin 0))] [(2, some (bx (encI (mkI (!(((ofZ (toZ x)).neg) == ((ofZ (toZ y)).neg))) (val (ofNat (val (ofNat (Int.natAbs (toZ x))) / val (ofNat (Int.natAbs (toZ y)))))))))), (3, some (bx (encI (ofZ (toZ (ofZ (toZ x)) - toZ (ofZ (toZ (mkI (!(((ofZ (toZ x)).neg) == ((ofZ (toZ y)).neg))) (val (ofNat (val (ofNat (Int.natAbs (toZ x))) / val (ofNat (Int.natAbs (toZ y))))))) * toZ (ofZ (toZ y)))))))))] mo (wR (oLa sh40) <| wR (oLa sh40) <| wR (oLa sh40) <| wR (oLa sh40) <| wE (oCl (r_mul (mkI (!(((ofZ (toZ x)).neg) == ((ofZ (toZ y)).neg))) (val (ofNat (val (ofNat (Int.natAbs (toZ x))) / val (ofNat (Int.natAbs (toZ y))))))) (ofZ (toZ y)) (by omega) (by omega))) <| wE (oCl (r_sub (ofZ (toZ x)) (ofZ (toZ (mkI (!(((ofZ (toZ x)).neg) == ((ofZ (toZ y)).neg))) (val (ofNat (val (ofNat (Int.natAbs (toZ x))) / val (ofNat (Int.natAbs (toZ y))))))) * toZ (ofZ (toZ y)))) (by omega) (by omega))) <| wT (oSt sh40) <| wT (oSt sh40) <| wM <| wZ) ?_
      refine pwp_ret ⟨_, (res_a (cs := (bx (encI (mkI (!(((ofZ (toZ x)).neg) == ((ofZ (toZ y)).neg))) (val (ofNat (val (ofNat (Int.natAbs (toZ x))) / val (ofNat (Int.natAbs (toZ y)))))))))) (d := (encI (mkI (!(((ofZ (toZ x)).neg) == ((ofZ (toZ y)).neg))) (val (ofNat (val (ofNat (Int.natAbs (toZ x))) / val (ofNat (Int.natAbs (toZ y))))))))) rfl rfl sh40 rfl rfl (res_a (cs := (bx (encI (ofZ (toZ (ofZ (toZ x)) - toZ (ofZ (toZ (mkI (!(((ofZ (toZ x)).neg) == ((ofZ (toZ y)).neg))) (val (ofNat (val (ofNat (Int.natAbs (toZ x))) / val (ofNat (Int.natAbs (toZ y))))))) * toZ (ofZ (toZ y))))))))) (d := (encI (ofZ (toZ (ofZ (toZ x)) - toZ (ofZ (toZ (mkI (!(((ofZ (toZ x)).neg) == ((ofZ (toZ y)).neg))) (val (ofNat (val (ofNat (Int.natAbs (toZ x))) / val (ofNat (Int.natAbs (toZ y))))))) * toZ (ofZ (toZ y)))))))) rfl rfl sh40 rfl rfl (.tmp (d := (.val (.int .i64 (0)))) rfl .nil))), ?_⟩
      rw [hk, r_rem_eq]; rfl
end Go.Proofs.YtbecgnplakngdaaGreat
namespace Go.Proofs.YtbecgnplakngdaaGreat
open Go.Fid
set_option maxRecDepth 4000
set_option linter.unusedVariables false
set_option linter.unusedSimpArgs false
theorem s_neg {x : RInt} {a : Int} {m : Nat} (hx : IOk x a m) (hm : m ≤ 274877906944) : Takes Tryz.prog 177 [(encI x)] (encI (ofZ (-a))) := by
  obtain ⟨rfl, hx'⟩ := hx
  exact t_neg x (by omega)
theorem s_sign {x : RInt} {a : Int} {m : Nat} (hx : IOk x a m) (hm : m ≤ 274877906944) : Takes Tryz.prog 138 [(encI x)] (.val (.int .i64 (signI a))) := by
  obtain ⟨rfl, hx'⟩ := hx
  exact t_sign x (by omega)
theorem s_add {x y : RInt} {a b : Int} {m n : Nat} (hx : IOk x a m) (hy : IOk y b n) (hm : m ≤ 274877906944) (hn : n ≤ 274877906944) : Takes Tryz.prog 188 [(encI x), (encI y)] (encI (ofZ (a + b))) := by
  obtain ⟨rfl, hx'⟩ := hx; obtain ⟨rfl, hy'⟩ := hy
  exact t_add x y (by omega) (by omega)
theorem s_mul {x y : RInt} {a b : Int} {m n : Nat} (hx : IOk x a m) (hy : IOk y b n) (hm : m ≤ 274877906944) (hn : n ≤ 274877906944) : Takes Tryz.prog 140 [(encI x), (encI y)] (encI (ofZ (a * b))) := by
  obtain ⟨rfl, hx'⟩ := hx; obtain ⟨rfl, hy'⟩ := hy
  exact t_mul x y (by omega) (by omega)
theorem s_compare {x y : RInt} {a b : Int} {m n : Nat} (hx : IOk x a m) (hy : IOk y b n) (hm : m ≤ 274877906944) (hn : n ≤ 274877906944) : Takes Tryz.prog 144 [(encI x), (encI y)] (.val (.int .i64 (cmpI a b))) := by
  obtain ⟨rfl, hx'⟩ := hx; obtain ⟨rfl, hy'⟩ := hy
  exact t_compareI x y (by omega) (by omega)
theorem s_gcd {x y : RInt} {a b : Int} {m n : Nat} (hx : IOk x a m) (hy : IOk y b n) (hm : m ≤ 274877906944) (hn : n ≤ 274877906944) : Takes Tryz.prog 145 [(encI x), (encI y)] (encI (ofZ ((Int.gcd a b : Nat) : Int))) := by
  obtain ⟨rfl, hx'⟩ := hx; obtain ⟨rfl, hy'⟩ := hy
  exact t_gcdI x y (by omega) (by omega)
theorem s_divide {x y : RInt} {a b : Int} {m n : Nat} (hx : IOk x a m) (hy : IOk y b n) (hm : m ≤ 274877906944) (hn : n ≤ 274877906944) (hb : b ≠ 0) : Takes Tryz.prog 151 [(encI x), (encI y)] (.tup [(encI (ofZ (a.fdiv b))), (encI (ofZ (a.fmod b))), (.val (.int .i64 0))]) := by
  obtain ⟨rfl, hx'⟩ := hx; obtain ⟨rfl, hy'⟩ := hy
  exact t_divideI x y (by omega) (by omega) hb
theorem rs_neg {x : RInt} {a : Int} {m : Nat} (hx : IOk x a m) (hm : m ≤ 274877906944) : Takes Tryz.prog 134 [(encI x)] (encI (ofZ (-a))) := by
  obtain ⟨rfl, hx'⟩ := hx
  exact r_neg x (by omega)
theorem rs_sign {x : RInt} {a : Int} {m : Nat} (hx : IOk x a m) (hm : m ≤ 274877906944) : Takes Tryz.prog 84 [(encI x)] (.val (.int .i64 (signI a))) := by
  obtain ⟨rfl, hx'⟩ := hx
  exact r_sign x (by omega)
theorem rs_add {x y : RInt} {a b : Int} {m n : Nat} (hx : IOk x a m) (hy : IOk y b n) (hm : m ≤ 274877906944) (hn : n ≤ 274877906944) : Takes Tryz.prog 135 [(encI x), (encI y)] (encI (ofZ (a + b))) := by
  obtain ⟨rfl, hx'⟩ := hx; obtain ⟨rfl, hy'⟩ := hy
  exact r_add x y (by omega) (by omega)
theorem rs_mul {x y : RInt} {a b : Int} {m n : Nat} (hx : IOk x a m) (hy : IOk y b n) (hm : m ≤ 274877906944) (hn : n ≤ 274877906944) : Takes Tryz.prog 103 [(encI x), (encI y)] (encI (ofZ (a * b))) := by
  obtain ⟨rfl, hx'⟩ := hx; obtain ⟨rfl, hy'⟩ := hy
  exact r_mul x y (by omega) (by omega)
theorem rs_compare {x y : RInt} {a b : Int} {m n : Nat} (hx : IOk x a m) (hy : IOk y b n) (hm : m ≤ 274877906944) (hn : n ≤ 274877906944) : Takes Tryz.prog 109 [(encI x), (encI y)] (.val (.int .i64 (cmpI a b))) := by
  obtain ⟨rfl, hx'⟩ := hx; obtain ⟨rfl, hy'⟩ := hy
  exact r_compare x y (by omega) (by omega)
theorem rs_gcd {x y : RInt} {a b : Int} {m n : Nat} (hx : IOk x a m) (hy : IOk y b n) (hm : m ≤ 274877906944) (hn : n ≤ 274877906944) : Takes Tryz.prog 110 [(encI x), (encI y)] (encI (ofZ ((Int.gcd a b : Nat) : Int))) := by
  obtain ⟨rfl, hx'⟩ := hx; obtain ⟨rfl, hy'⟩ := hy
  exact r_gcd x y (by omega) (by omega)
theorem rs_divide {x y : RInt} {a b : Int} {m n : Nat} (hx : IOk x a m) (hy : IOk y b n) (hm : m ≤ 274877906944) (hn : n ≤ 274877906944) (hb : b ≠ 0) : Takes Tryz.prog 136 [(encI x), (encI y)] (.tup [(encI (ofZ (a.fdiv b))), (encI (ofZ (a.fmod b))), (.val (.int .i64 0))]) := by
  obtain ⟨rfl, hx'⟩ := hx; obtain ⟨rfl, hy'⟩ := hy
  exact r_divide x y (by omega) (by omega) hb
end Go.Proofs.YtbecgnplakngdaaGreat
