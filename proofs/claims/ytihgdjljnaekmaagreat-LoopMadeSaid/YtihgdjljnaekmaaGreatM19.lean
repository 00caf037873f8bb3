/- Part 19 of a proof: rules, plain facts, and functions walked. -/
import Derived.Test.YtihgdjljnaekmaaGreatM18
namespace Go.Proofs.YtihgdjljnaekmaaGreat
open Go.Fid
set_option maxRecDepth 4000
set_option linter.unusedVariables false
set_option linter.unusedSimpArgs false
theorem cb109 : callB Tryz.prog 109 = true := by kernel_rfl
theorem cb130 : callB Tryz.prog 130 = true := by kernel_rfl
theorem cb160 : callB Tryz.prog 160 = true := by kernel_rfl
theorem cb164 : callB Tryz.prog 164 = true := by kernel_rfl
theorem cb188 : callB Tryz.prog 188 = true := by kernel_rfl
theorem cb189 : callB Tryz.prog 189 = true := by kernel_rfl
theorem cb190 : callB Tryz.prog 190 = true := by kernel_rfl
theorem cb191 : callB Tryz.prog 191 = true := by kernel_rfl
theorem cb192 : callB Tryz.prog 192 = true := by kernel_rfl
theorem cb199 : callB Tryz.prog 199 = true := by kernel_rfl
theorem ft49_1 : fieldT Tryz.prog 49 1 = some (1, 47) := by kernel_rfl
theorem r_group (l : List Nat) (i : Nat) (hd : Dig l) : Takes Tryz.prog 191 [(.sl 135 1 (List.map enc_u32 l)), (.val (.int .i64 (((i : Nat) : Int))))] (.val (.int .u64 ((((l.getD i 0) : Nat) : Int)))) := by
  have hg := hd.getD i
  refine fn_intro Tryz.func191 rfl cb191 rfl ?_
  show PWp _ _ _ _ ⟨[(0, (vl 135 1 enc_u32 l)), (1, (vin i))], []⟩
  refine pwp_seq <| kx [] [] (zM <| zZ) ?_
  refine pwp_seq <| pwp_seq <| kx [(8, (vb (decide (((i : Nat) : Int) < ((l.length : Nat) : Int)))))] [] (zM <| zM <| zE (oLm el47) <| zE oLt <| zZ) ?_
  refine pwp_cond rfl (fun h1 => ?_) (fun h1 => ?_)
  · replace h1 := of_decide_eq_true h1
    refine pwp_seq <| kx [(4, (vqn (l.getD i 0)))] [] (zM <| zM <| zE (oXl el47 i (0 : Nat)) <| zE (oC1 sh135) <| zE (oCv un135 in180 (l.getD i 0)) <| zM <| zZ) ?_
    refine pwp_ret ⟨_, (.tmp (d := (.val (.int .u64 ((((l.getD i 0) : Nat) : Int))))) rfl .nil), ?_⟩
    rfl
  · replace h1 := of_decide_eq_false h1
    refine pwp_skip <| pwp_seq <| kx [(4, (vqn 0))] [] (zM <| zZ) ?_
    refine pwp_ret ⟨_, (.tmp (d := (.val (.int .u64 (0)))) rfl .nil), ?_⟩
    rw [show l.getD i 0 = 0 from getD_out (by omega)]; rfl
theorem r_made (neg : Bool) (l : List Nat) (hd : Dig l) (hb : l.length ≤ 17592186044416) : Takes Tryz.prog 164 [(.val (.bool (neg))), (.sl 135 1 (List.map enc_u32 l))] (encI (mkI neg (val l))) := by
  refine fn_intro Tryz.func164 rfl cb164 rfl ?_
  show PWp _ _ _ _ ⟨[(0, (vb neg)), (1, (vl 135 1 enc_u32 l))], []⟩
  refine pwp_seq <| kx [(4, (.ref 0 0))] [(0, some (bx (encI (RInt.mk false []))))] (zN (oAl 0 ze49 zo49) <| zZ) ?_
  refine pwp_seq <| kx [(5, (vin l.length))] [] (zM <| zE (oLm el47) <| zM <| zZ) ?_
  refine pwp_seq <| pwp_block <| pwp_loop (α := Nat) (fun k => ⟨[(0, (vb neg)), (1, (vl 135 1 enc_u32 l)), (4, (.ref 0 0)), (5, (vin k))], [(0, some (bx (encI (RInt.mk false []))))]⟩) (fun k => k ≤ l.length ∧ val (l.take k) = val l) (fun k => k) l.length wk ⟨Nat.le_refl _, by rw [List.take_length]⟩ ?_
  rintro k ⟨hk, hv⟩
  refine pwp_seq <| pwp_seq <| kx [(17, (vb (decide (0 < ((k : Nat) : Int)) && ((((l.getD (k - 1) 0) : Nat) : Int) == 0))))] [] ?_ ?_
  · refine zM <| zE oGt <| zE (oV (vb (decide (0 < ((k : Nat) : Int)))) (mv_ok (by kernel_rfl))) <| ?_
    rcases hb1 : (decide (0 < ((k : Nat) : Int))) with _ | _
    · replace hb1 := of_decide_eq_false hb1
      exact zK <| zK <| zK <| zK <| zK <| zK <| zE oPf <| zZ
    · replace hb1 := of_decide_eq_true hb1
      exact zM <| zM <| zE (oSb (k - 1)) <| zE (oXl el47 (k - 1) (0 : Nat)) <| zE (oC1 sh135) <| zE oEq <| zE oPa <| zZ
  refine pwp_cond rfl (fun h2 => ?_) (fun h2 => ?_)
  · have hm := r_made_step hk hv h2
    have hm0 := hm.1
    refine pwp_skip <| pwp_block <| kx [(5, (vin (k - 1)))] [] (zM <| zE (oSb (k - 1)) <| zM <| zZ) ?_
    exact ⟨(k - 1), wk, ⟨by omega, hm.2⟩, (by first | omega | (dsimp only; omega))⟩
  · refine pwp_exit <| pwp_seq <| kx [] [(0, some (bx (encI (RInt.mk (neg && decide (0 < ((k : Nat) : Int))) (List.take k l)))))] ?_ ?_
    · refine zM <| zE (oV (vb neg) (mv_ok (by kernel_rfl))) <| ?_
      rcases hb3 : neg with _ | _
      · exact zK <| zK <| zE oPf <| zE (oBe el47) <| zM <| zM <| zE (e_slc (l := 0) (h := k) (kl := .i64) (kh := .i64) (es' := List.map enc_u32 (List.take k l)) (by exact rfl) el47 (by exact rfl) (by exact rfl) (by exact rfl) (Nat.zero_le _) (by simp only [List.length_map]; omega) (by rw [List.drop_zero, List.map_take])) <| zE (e_appe (by exact rfl) el47 ze135 (by kernel_rfl) by135 (by exact rfl) (by exact rfl) (by simp only [List.length_map, List.length_take, List.length_drop, List.length_append, List.length_cons, List.length_nil, maxLen]; omega) (by simp only [List.length_map, List.length_take, List.length_drop, List.length_append, List.length_cons, List.length_nil]; omega)) <| zE (oBd pl49 ze49 zo49) <| zT (oSt sh49) <| zZ
      · exact zM <| zE oGt <| zE oPa <| zE (oBe el47) <| zM <| zM <| zE (e_slc (l := 0) (h := k) (kl := .i64) (kh := .i64) (es' := List.map enc_u32 (List.take k l)) (by exact rfl) el47 (by exact rfl) (by exact rfl) (by exact rfl) (Nat.zero_le _) (by simp only [List.length_map]; omega) (by rw [List.drop_zero, List.map_take])) <| zE (e_appe (by exact rfl) el47 ze135 (by kernel_rfl) by135 (by exact rfl) (by exact rfl) (by simp only [List.length_map, List.length_take, List.length_drop, List.length_append, List.length_cons, List.length_nil, maxLen]; omega) (by simp only [List.length_map, List.length_take, List.length_drop, List.length_append, List.length_cons, List.length_nil]; omega)) <| zE (oBd pl49 ze49 zo49) <| zT (oSt sh49) <| zZ
    refine pwp_ret ⟨_, (res_a (cs := (bx (encI (RInt.mk (neg && decide (0 < ((k : Nat) : Int))) (List.take k l))))) (d := (encI (RInt.mk (neg && decide (0 < ((k : Nat) : Int))) (List.take k l)))) rfl rfl sh49 rfl rfl .nil), ?_⟩
    rw [r_made_end hd hk hv h2]; rfl
theorem r_valid (x : RInt) (hb : x.gs.length ≤ 17592186044416) : Takes Tryz.prog 130 [(encI x)] (.val (.bool ((validI x)))) := by
  refine fn_intro Tryz.func130 rfl cb130 rfl ?_
  show PWp _ _ _ _ ⟨[(0, (.d (encI x)))], []⟩
  refine pwp_seq <| kx [(1, (.ref 0 0))] [(0, some (bx (encI x)))] (zN (oBx 0) <| zM <| zZ) ?_
  refine pwp_seq <| kx [(3, (vin x.gs.length))] [] (zE (oFr fo49_1) <| zR (oL1 sh47) <| zE (oLm el47) <| zM <| zZ) ?_
  refine pwp_seq <| pwp_seq <| kx [(4, (vin 0))] [] (zM <| zZ) ?_
  refine pwp_block <| pwp_loop (α := Nat) (fun i => ⟨[(1, (.ref 0 0)), (3, (vin x.gs.length)), (4, (vin i))], [(0, some (bx (encI x)))]⟩) (fun i => i ≤ x.gs.length ∧ Dig (x.gs.take i)) (fun i => x.gs.length - i) 0 wk ⟨Nat.zero_le _, by rw [List.take_zero]; exact dig_nil⟩ ?_
  rintro i ⟨hi, hd⟩
  refine pwp_seq <| pwp_seq <| kx [(10, (vb (decide (((i : Nat) : Int) < ((x.gs.length : Nat) : Int)))))] [] (zM <| zM <| zE oLt <| zZ) ?_
  refine pwp_cond rfl (fun h1 => ?_) (fun h1 => ?_)
  · replace h1 := of_decide_eq_true h1
    refine pwp_skip <| pwp_seq <| pwp_block <| pwp_seq <| kx [(18, (vb (decide (1000000000 ≤ (((x.gs.getD i 0) : Nat) : Int)))))] [] (zE (oFr fo49_1) <| zR (oL1 sh47) <| zM <| zE (oXl el47 i (0 : Nat)) <| zE (oC1 sh135) <| zE oGe <| zZ) ?_
    refine pwp_cond rfl (fun h2 => ?_) (fun h2 => ?_)
    · replace h2 := of_decide_eq_true h2
      refine pwp_seq <| kx [(2, (vb false))] [] (zM <| zZ) ?_
      refine pwp_ret ⟨_, (.tmp (d := (.val (.bool (false)))) rfl .nil), ?_⟩
      rw [validI_big (i := i) (by omega) (by omega)]; rfl
    · replace h2 := of_decide_eq_false h2
      refine pwp_skip <| kx [(4, (vin (i + 1)))] [] (zM <| zE (oAd (i + 1)) <| zM <| zZ) ?_
      exact ⟨(i + 1), wk, ⟨by omega, dig_take_succ (by omega) hd (by omega)⟩, (by first | omega | (dsimp only; omega))⟩
  · replace h1 := of_decide_eq_false h1
    have hie : i = x.gs.length := by omega
    rw [hie, List.take_length] at hd
    refine pwp_exit <| pwp_seq <| pwp_seq <| kx [(20, (vb (((x.gs.length : Nat) : Int) == 0)))] [] (zM <| zE oEq <| zZ) ?_
    refine pwp_cond (b := (((x.gs.length : Nat) : Int) == 0)) rfl (fun h3 => ?_) (fun h3 => ?_)
    · replace h3 := eq_of_beq h3
      refine pwp_seq <| kx [(2, (vb (!x.neg)))] [] (zE (oFr fo49_0) <| zR (oL1 sh4) <| zE oNt <| zM <| zZ) ?_
      refine pwp_ret ⟨_, (.tmp (d := (.val (.bool (!x.neg)))) rfl .nil), ?_⟩
      rw [validI_nil (by omega)]; rfl
    · replace h3 := ne_of_beq_false h3
      refine pwp_skip <| pwp_seq <| kx [(2, (vb ((((x.gs.getD (x.gs.length - 1) 0) : Nat) : Int) != 0)))] [] (zE (oFr fo49_1) <| zR (oL1 sh47) <| zM <| zE (oSb (x.gs.length - 1)) <| zE (oXl el47 (x.gs.length - 1) (0 : Nat)) <| zE (oC1 sh135) <| zE oNe <| zM <| zZ) ?_
      refine pwp_ret ⟨_, (.tmp (d := (.val (.bool (((((x.gs.getD (x.gs.length - 1) 0) : Nat) : Int) != 0))))) rfl .nil), ?_⟩
      rw [validI_dig hd (by omega)]; rfl
theorem r_value (x : RInt) (hb : x.gs.length ≤ 17592186044416) : Takes Tryz.prog 109 [(encI x)] (encI (ofZ (toZ x))) := by
  refine fn_intro Tryz.func109 rfl cb109 rfl ?_
  show PWp _ _ _ _ ⟨[(0, (.d (encI x)))], []⟩
  refine pwp_seq <| kx [(1, (.ref 0 0)), (2, (.ref 1 0))] [(0, some (bx (encI x))), (1, some (bx (encI (RInt.mk false []))))] (zN (oBx 0) <| zN (oAl 1 ze49 zo49) <| zZ) ?_
  refine pwp_seq <| pwp_seq <| kx [(5, (vb (!(validI x))))] [] (zR (oLa sh49) <| zE (oCl (r_valid x (by omega))) <| zE oNt <| zZ) ?_
  refine pwp_cond (b := !(validI x)) rfl (fun h1 => ?_) (fun h1 => ?_)
  · refine pwp_seq <| kx [] [(1, some (bx (encI (RInt.mk false []))))] (zE (oBd pl49 ze49 zo49) <| zT (oSt sh49) <| zZ) ?_
    refine pwp_ret ⟨_, (res_a (cs := (bx (encI (RInt.mk false [])))) (d := (encI (RInt.mk false []))) rfl rfl sh49 rfl rfl .nil), ?_⟩
    rw [toZ_bad (by rw [Bool.not_eq_true'] at h1; exact h1), ofZ_zero]; rfl
  · refine pwp_skip <| pwp_seq <| kd [] [(1, some (bx (encI (RInt.mk x.neg x.gs))))] mo (wE (oFr fo49_0) <| wR (oL1 sh4) <| wE (oBe el47) <| wE (oFr fo49_1) <| wR (oL1 sh47) <| wE (e_appe (by exact rfl) el47 ze135 (by kernel_rfl) by135 (by exact rfl) (by exact rfl) (by simp only [List.length_map, List.length_take, List.length_drop, List.length_append, List.length_cons, List.length_nil, maxLen]; omega) (by simp only [List.length_map, List.length_take, List.length_drop, List.length_append, List.length_cons, List.length_nil]; omega)) <| wE (oBd pl49 ze49 zo49) <| wT (oSt sh49) <| wZ) ?_
    refine pwp_ret ⟨_, (res_a (cs := (bx (encI (RInt.mk x.neg x.gs)))) (d := (encI (RInt.mk x.neg x.gs))) rfl rfl sh49 rfl rfl .nil), ?_⟩
    rw [ofZ_toZ (by simpa using h1)]; rfl
theorem r_of (n : Int) (hlo : -9223372036854775808 ≤ n) (hhi : n ≤ 9223372036854775807) : Takes Tryz.prog 160 [(.val (.int .i64 (n)))] (encI (ofZ n)) := by
  refine fn_intro Tryz.func160 rfl cb160 rfl ?_
  show PWp _ _ _ _ ⟨[(0, (vi n))], []⟩
  refine pwp_seq <| kx [(2, (.ref 0 0))] [(0, some (bx (encI (RInt.mk false []))))] (zN (oAl 0 ze49 zo49) <| zZ) ?_
  refine pwp_seq <| kx [(3, (vqn ((n % 18446744073709551616).toNat)))] [] (zM <| zE (oCv un3 in180 ((n % 18446744073709551616).toNat) (hr := by exact (conv_u64 _))) <| zM <| zZ) ?_
  refine pwp_seq <| pwp_seq <| kx [(8, (vb (decide (n < 0))))] [] (zM <| zE oLt <| zZ) ?_
  refine pwp_cond (b := decide (n < 0)) rfl (fun h1 => ?_) (fun h1 => ?_)
  · replace h1 := of_decide_eq_true h1
    refine kx [(3, (vqn n.natAbs))] [] (zM <| zE (zAd (n + 1)) <| zE (oNg (-(n + 1))) <| zE (oCv un3 in180 ((-n - 1).toNat) (hr := by exact (wu64 (by omega) (by omega) (by omega)))) <| zE (oAd n.natAbs) <| zM <| zZ) ?_
    refine pwp_seq <| kx [(4, (.own 1 135 1 0))] [(1, some (bm enc_u32 []))] (zN (oBo 1 el47 ze135 zo135) <| zM <| zZ) ?_
    refine pwp_seq <| pwp_block <| pwp_loop (α := List Nat × Nat) (fun (o, m) => ⟨[(0, (vi n)), (2, (.ref 0 0)), (3, (vqn m)), (4, (.own 1 135 1 o.length))], [(0, some (bx (encI (RInt.mk false [])))), (1, some (bm enc_u32 o))]⟩) (fun (o, m) => m ≤ 9223372036854775808 ∧ o ++ ofNat m = ofNat n.natAbs) (fun (o, m) => m) ([], n.natAbs) wk ⟨by omega, by rw [List.nil_append]⟩ ?_
    rintro ⟨o, m⟩ ⟨hm, hg⟩
    have hl := split_len hg (by omega)
    refine pwp_seq <| pwp_seq <| kx [(16, (vb (decide (0 < ((m : Nat) : Int)))))] [] (zM <| zE oGt <| zZ) ?_
    refine pwp_cond (b := decide (0 < ((m : Nat) : Int))) rfl (fun h2 => ?_) (fun h2 => ?_)
    · replace h2 := of_decide_eq_true h2
      refine pwp_skip <| pwp_block <| pwp_seq <| kf [(4, (.own 1 135 1 ((o ++ [(m % 1000000000)]).length)))] [(1, some (bm enc_u32 (o ++ [(m % 1000000000)])))] (zM <| zM <| zE (oRe (m % 1000000000)) <| zE (oCv un180 in135 (m % 1000000000)) <| zE (oBs el47 ze135 zo135) <| zA enc_u32 o [(m % 1000000000)] rfl el47 ze135 by135 <| zM <| zF) ?_
      refine kx [(3, (vqn (m / 1000000000)))] [] (zM <| zE (oQu (m / 1000000000)) <| zM <| zZ) ?_
      exact ⟨(o ++ [m % 1000000000], m / 1000000000), wk, ⟨by omega, split_step hg h2⟩, (by first | omega | (dsimp only; omega))⟩
    · replace h2 := of_decide_eq_false h2
      have hdo : Dig o := split_dig hg h2
      have hvo := split_val hg h2
      refine pwp_exit <| pwp_seq <| pwp_sim (publish (t := 4) (k := 1) (es := List.map enc_u32 o) rfl rfl (pub_cells _ _ (fun _ => rfl)) (map_len _ _ rfl) (pub_take _ _ (fun _ => rfl) rfl)) ?_
      refine kx [] [(0, some (bx (encI (mkI (decide (n < 0)) (val o)))))] (zM <| zE oLt <| zM <| zE (oCl (r_made (decide (n < 0)) o hdo (by omega))) <| zT (oSt sh49) <| zZ) ?_
      refine pwp_ret ⟨_, (res_a (cs := (bx (encI (mkI (decide (n < 0)) (val o))))) (d := (encI (mkI (decide (n < 0)) (val o)))) rfl rfl sh49 rfl rfl .nil), ?_⟩
      rw [hvo]; rfl
  · replace h1 := of_decide_eq_false h1
    rw [show (n % 18446744073709551616).toNat = n.natAbs from by omega]
    refine pwp_skip <| pwp_seq <| kx [(3, (vqn n.natAbs)), (4, (.own 2 135 1 0))] [(2, some (bm enc_u32 []))] (zN (oBo 2 el47 ze135 zo135) <| zM <| zZ) ?_
    refine pwp_seq <| pwp_block <| pwp_loop (α := List Nat × Nat) (fun (o, m) => ⟨[(0, (vi n)), (2, (.ref 0 0)), (3, (vqn m)), (4, (.own 2 135 1 o.length))], [(0, some (bx (encI (RInt.mk false [])))), (2, some (bm enc_u32 o))]⟩) (fun (o, m) => m ≤ 9223372036854775808 ∧ o ++ ofNat m = ofNat n.natAbs) (fun (o, m) => m) ([], n.natAbs) wk ⟨by omega, by rw [List.nil_append]⟩ ?_
    rintro ⟨o, m⟩ ⟨hm, hg⟩
    have hl := split_len hg (by omega)
    refine pwp_seq <| pwp_seq <| kx [(16, (vb (decide (0 < ((m : Nat) : Int)))))] [] (zM <| zE oGt <| zZ) ?_
    refine pwp_cond (b := decide (0 < ((m : Nat) : Int))) rfl (fun h3 => ?_) (fun h3 => ?_)
    · replace h3 := of_decide_eq_true h3
      refine pwp_skip <| pwp_block <| pwp_seq <| kf [(4, (.own 2 135 1 ((o ++ [(m % 1000000000)]).length)))] [(2, some (bm enc_u32 (o ++ [(m % 1000000000)])))] (zM <| zM <| zE (oRe (m % 1000000000)) <| zE (oCv un180 in135 (m % 1000000000)) <| zE (oBs el47 ze135 zo135) <| zA enc_u32 o [(m % 1000000000)] rfl el47 ze135 by135 <| zM <| zF) ?_
      refine kx [(3, (vqn (m / 1000000000)))] [] (zM <| zE (oQu (m / 1000000000)) <| zM <| zZ) ?_
      exact ⟨(o ++ [m % 1000000000], m / 1000000000), wk, ⟨by omega, split_step hg h3⟩, (by first | omega | (dsimp only; omega))⟩
    · replace h3 := of_decide_eq_false h3
      have hdo : Dig o := split_dig hg h3
      have hvo := split_val hg h3
      refine pwp_exit <| pwp_seq <| pwp_sim (publish (t := 4) (k := 2) (es := List.map enc_u32 o) rfl rfl (pub_cells _ _ (fun _ => rfl)) (map_len _ _ rfl) (pub_take _ _ (fun _ => rfl) rfl)) ?_
      refine kx [] [(0, some (bx (encI (mkI (decide (n < 0)) (val o)))))] (zM <| zE oLt <| zM <| zE (oCl (r_made (decide (n < 0)) o hdo (by omega))) <| zT (oSt sh49) <| zZ) ?_
      refine pwp_ret ⟨_, (res_a (cs := (bx (encI (mkI (decide (n < 0)) (val o))))) (d := (encI (mkI (decide (n < 0)) (val o)))) rfl rfl sh49 rfl rfl .nil), ?_⟩
      rw [hvo]; rfl
theorem r_size (a b : List Nat) (ha : Cano a) (hb : Cano b) (hla : a.length ≤ 17592186044416) (hlb : b.length ≤ 17592186044416) : Takes Tryz.prog 188 [(.sl 135 1 (List.map enc_u32 a)), (.sl 135 1 (List.map enc_u32 b))] (.val (.int .i64 ((cmpI ((val a : Nat) : Int) ((val b : Nat) : Int))))) := by
  refine fn_intro Tryz.func188 rfl cb188 rfl ?_
  show PWp _ _ _ _ ⟨[(0, (vl 135 1 enc_u32 a)), (1, (vl 135 1 enc_u32 b))], []⟩
  refine pwp_seq <| kx [] [] (zM <| zZ) ?_
  refine pwp_seq <| pwp_seq <| kx [(10, (vb (((a.length : Nat) : Int) != ((b.length : Nat) : Int))))] [] (zM <| zE (oLm el47) <| zM <| zE (oLm el47) <| zE oNe <| zZ) ?_
  refine pwp_cond rfl (fun h1 => ?_) (fun h1 => ?_)
  · replace h1 := bne_iff_ne.1 h1
    refine pwp_seq <| pwp_seq <| kx [(15, (vb (decide (((a.length : Nat) : Int) < ((b.length : Nat) : Int)))))] [] (zM <| zE (oLm el47) <| zM <| zE (oLm el47) <| zE oLt <| zZ) ?_
    refine pwp_cond rfl (fun h2 => ?_) (fun h2 => ?_)
    · replace h2 := of_decide_eq_true h2
      refine pwp_seq <| kx [(4, (vi (-1)))] [] (zM <| zZ) ?_
      refine pwp_ret ⟨_, (.tmp (d := (.val (.int .i64 (-1)))) rfl .nil), ?_⟩
      rw [← cmpI_len ha hb h1]; unfold cmpI; rw [if_pos (by omega)]; rfl
    · replace h2 := of_decide_eq_false h2
      refine pwp_skip <| pwp_seq <| kx [(4, (vin 1))] [] (zM <| zZ) ?_
      refine pwp_ret ⟨_, (.tmp (d := (.val (.int .i64 (1)))) rfl .nil), ?_⟩
      rw [← cmpI_len ha hb h1, cmpI_gt (by omega)]; rfl
  · replace h1 := bne_eq_false_iff_eq.1 h1
    have hl : a.length = b.length := by omega
    refine pwp_skip <| pwp_seq <| pwp_seq <| kx [(5, (vi (((a.length : Nat) : Int) - 1)))] [] (zM <| zE (oLm el47) <| zE (zSb (((a.length : Nat) : Int) - 1)) <| zM <| zZ) ?_
    refine pwp_block <| pwp_loop (α := Nat) (fun k => ⟨[(0, (vl 135 1 enc_u32 a)), (1, (vl 135 1 enc_u32 b)), (5, (vi (((k : Nat) : Int) - 1)))], []⟩) (fun k => k ≤ a.length ∧ val (a.drop k) = val (b.drop k)) (fun k => k) a.length wk ⟨Nat.le_refl _, by rw [List.drop_length, hl, List.drop_length]⟩ ?_
    rintro k ⟨hk, he⟩
    refine pwp_seq <| pwp_seq <| kx [(20, (vb (decide (0 ≤ (((k : Nat) : Int) - 1)))))] [] (zM <| zE oGe <| zZ) ?_
    refine pwp_cond (b := decide (0 ≤ (((k : Nat) : Int) - 1))) rfl (fun h3 => ?_) (fun h3 => ?_)
    · replace h3 := of_decide_eq_true h3
      obtain ⟨i, rfl⟩ : ∃ i, k = i + 1 := ⟨k - 1, by omega⟩
      rw [show (((i + 1 : Nat) : Int) - 1) = ((i : Nat) : Int) from by omega]
      have ht := cmpI_top ha.1 hb.1 hl (j := a.length - 1 - i) (by omega) (by rw [show a.length - (a.length - 1 - i) = i + 1 by omega]; exact he)
      rw [show a.length - 1 - (a.length - 1 - i) = i by omega] at ht
      refine pwp_skip <| pwp_seq <| pwp_block <| pwp_seq <| pwp_seq <| kd [(5, (vin i)), (31, (vb (decide ((((a.getD i 0) : Nat) : Int) < (((b.getD i 0) : Nat) : Int)))))] [] mo (wM <| wM <| wE (oXl el47 i (0 : Nat)) <| wE (oC1 sh135) <| wM <| wM <| wE (oXl el47 i (0 : Nat)) <| wE (oC1 sh135) <| wE oLt <| wZ) ?_
      refine pwp_cond rfl (fun h4 => ?_) (fun h4 => ?_)
      · replace h4 := of_decide_eq_true h4
        refine pwp_seq <| kx [(4, (vi (-1)))] [] (zM <| zZ) ?_
        refine pwp_ret ⟨_, (.tmp (d := (.val (.int .i64 (-1)))) rfl .nil), ?_⟩
        rw [← ht (by omega)]; unfold cmpI; rw [if_pos (by omega)]; rfl
      · replace h4 := of_decide_eq_false h4
        refine pwp_skip <| pwp_seq <| kd [(40, (vb (decide ((((b.getD i 0) : Nat) : Int) < (((a.getD i 0) : Nat) : Int)))))] [] mo (wM <| wM <| wE (oXl el47 i (0 : Nat)) <| wE (oC1 sh135) <| wM <| wM <| wE (oXl el47 i (0 : Nat)) <| wE (oC1 sh135) <| wE oGt <| wZ) ?_
        refine pwp_cond rfl (fun h5 => ?_) (fun h5 => ?_)
        · replace h5 := of_decide_eq_true h5
          refine pwp_seq <| kx [(4, (vin 1))] [] (zM <| zZ) ?_
          refine pwp_ret ⟨_, (.tmp (d := (.val (.int .i64 (1)))) rfl .nil), ?_⟩
          rw [← ht (by omega), cmpI_gt (by omega)]; rfl
        · replace h5 := of_decide_eq_false h5
          refine pwp_skip <| kx [(5, (vi (((i : Nat) : Int) - 1)))] [] (zM <| zE (zSb (((i : Nat) : Int) - 1)) <| zM <| zZ) ?_
          exact ⟨i, wk, ⟨by omega, by rw [val_drop_one a i, val_drop_one b i, he]; omega⟩, (by first | omega | (dsimp only; omega))⟩
    · replace h3 := of_decide_eq_false h3
      obtain rfl : k = 0 := by omega
      rw [List.drop_zero, List.drop_zero] at he
      refine pwp_exit <| pwp_seq <| kx [(4, (vin 0))] [] (zM <| zZ) ?_
      refine pwp_ret ⟨_, (.tmp (d := (.val (.int .i64 (0)))) rfl .nil), ?_⟩
      rw [cmpI_same he]; rfl
theorem r_plus (a b : List Nat) (hda : Dig a) (hdb : Dig b) (hla : a.length ≤ 8796093022208) (hlb : b.length ≤ 8796093022208) : Takes Tryz.prog 199 [(.sl 135 1 (List.map enc_u32 a)), (.sl 135 1 (List.map enc_u32 b))] (.sl 135 1 (List.map enc_u32 (ofNat (val a + val b)))) := by
  refine fn_intro Tryz.func199 rfl cb199 rfl ?_
  show PWp _ _ _ _ ⟨[(0, (vl 135 1 enc_u32 a)), (1, (vl 135 1 enc_u32 b))], []⟩
  refine pwp_seq <| kx [] [] (zE (oNl 135 1) <| zZ) ?_
  refine pwp_seq <| kx [(5, (.own 0 135 1 0))] [(0, some (bm enc_u32 []))] (zN (oBo 0 el47 ze135 zo135) <| zM <| zZ) ?_
  refine pwp_seq <| kx [(6, (vqn 0))] [] (zM <| zZ) ?_
  refine pwp_seq <| pwp_seq <| kx [(7, (vin 0))] [] (zM <| zZ) ?_
  refine pwp_block <| pwp_loop (α := Nat × List Nat × Nat) (fun (i, o, c) => ⟨[(0, (vl 135 1 enc_u32 a)), (1, (vl 135 1 enc_u32 b)), (5, (.own 0 135 1 o.length)), (6, (vqn c)), (7, (vin i))], [(0, some (bm enc_u32 o))]⟩) (fun (i, o, c) => o.length = i ∧ Dig o ∧ i ≤ max a.length b.length ∧ c ≤ 1 ∧ val o + pw i * c = val (a.take i) + val (b.take i)) (fun (i, o, c) => max a.length b.length - i) (0, [], 0) wk ⟨rfl, dig_nil, Nat.zero_le _, Nat.zero_le _, by simp [val]⟩ ?_
  rintro ⟨i, o, c⟩ ⟨hl, hd, hi, hc, hv⟩
  have hai := hda.getD i
  have hbi := hdb.getD i
  refine pwp_seq <| pwp_seq <| kx [(19, (vb (decide (((i : Nat) : Int) < ((a.length : Nat) : Int)) || decide (((i : Nat) : Int) < ((b.length : Nat) : Int)))))] [] ?_ ?_
  · refine zM <| zM <| zE (oLm el47) <| zE oLt <| zE (oV (vb (decide (((i : Nat) : Int) < ((a.length : Nat) : Int)))) (mv_ok (by kernel_rfl))) <| ?_
    rcases hb1 : (decide (((i : Nat) : Int) < ((a.length : Nat) : Int))) with _ | _
    · replace hb1 := of_decide_eq_false hb1
      exact zM <| zM <| zE (oLm el47) <| zE oLt <| zE oPo <| zZ
    · replace hb1 := of_decide_eq_true hb1
      exact zK <| zK <| zK <| zK <| zE oPt <| zZ
  refine pwp_cond rfl (fun h2 => ?_) (fun h2 => ?_)
  · rw [Bool.or_eq_true, decide_eq_true_eq, decide_eq_true_eq] at h2
    refine pwp_skip <| pwp_seq <| pwp_block <| pwp_seq <| kx [(8, (vqn (((a.getD i 0) + (b.getD i 0)) + c)))] [] (zM <| zM <| zE (oCl (r_group a i (by first | assumption | exact ofNat_dig _ | exact (ofNat_can _).1 | exact (grpI_can _).1))) <| zM <| zM <| zE (oCl (r_group b i (by first | assumption | exact ofNat_dig _ | exact (ofNat_can _).1 | exact (grpI_can _).1))) <| zE (oAd ((a.getD i 0) + (b.getD i 0))) <| zM <| zE (oAd (((a.getD i 0) + (b.getD i 0)) + c)) <| zM <| zZ) ?_
    refine pwp_seq <| kf [(5, (.own 0 135 1 ((o ++ [((((a.getD i 0) + (b.getD i 0)) + c) % 1000000000)]).length)))] [(0, some (bm enc_u32 (o ++ [((((a.getD i 0) + (b.getD i 0)) + c) % 1000000000)])))] (zM <| zM <| zE (oRe ((((a.getD i 0) + (b.getD i 0)) + c) % 1000000000)) <| zE (oCv un180 in135 ((((a.getD i 0) + (b.getD i 0)) + c) % 1000000000)) <| zE (oBs el47 ze135 zo135) <| zA enc_u32 o [((((a.getD i 0) + (b.getD i 0)) + c) % 1000000000)] rfl el47 ze135 by135 <| zM <| zF) ?_
    refine kx [(6, (vqn ((((a.getD i 0) + (b.getD i 0)) + c) / 1000000000)))] [] (zM <| zE (oQu ((((a.getD i 0) + (b.getD i 0)) + c) / 1000000000)) <| zM <| zZ) ?_
    refine kx [(7, (vin (i + 1)))] [] (zM <| zE (oAd (i + 1)) <| zM <| zZ) ?_
    exact ⟨(i + 1, o ++ [(a.getD i 0 + b.getD i 0 + c) % 1000000000], (a.getD i 0 + b.getD i 0 + c) / 1000000000), wk, ⟨by simp [hl], dig_push hd (Nat.mod_lt _ (by decide)), by omega, by omega, rplus_step hl hv rfl⟩, (by first | omega | (dsimp only; omega))⟩
  · rw [Bool.or_eq_false_iff, decide_eq_false_iff_not, decide_eq_false_iff_not] at h2
    rw [take_all (by omega), take_all (by omega)] at hv
    have hp := val_push (c := c) hl
    refine pwp_exit <| pwp_seq <| kf [(4, (vl 135 1 enc_u32 (ofNat (val (o ++ [c]))))), (5, .junk)] [(0, none)] (zM <| zM <| zE (oCv un180 in135 c) <| zE (oBs el47 ze135 zo135) <| zAQ enc_u32 o [c] rfl el47 ze135 by135 <| zE (oCl (r_made false (o ++ [c]) (dig_push hd (by omega)) (by simp only [List.length_append, List.length_cons, List.length_nil]; omega))) <| zE (oF1 ft49_1 sh47) <| zM <| zF) ?_
    refine pwp_ret ⟨_, (.tmp (d := (.sl 135 1 (List.map enc_u32 (ofNat (val (o ++ [c])))))) rfl .nil), ?_⟩
    rw [hp, hv]; rfl
theorem r_minus (a b : List Nat) (hda : Dig a) (hdb : Dig b) (hba : val b ≤ val a) (hla : a.length ≤ 8796093022208) : Takes Tryz.prog 192 [(.sl 135 1 (List.map enc_u32 a)), (.sl 135 1 (List.map enc_u32 b))] (.sl 135 1 (List.map enc_u32 (ofNat (val a - val b)))) := by
  refine fn_intro Tryz.func192 rfl cb192 rfl ?_
  show PWp _ _ _ _ ⟨[(0, (vl 135 1 enc_u32 a)), (1, (vl 135 1 enc_u32 b))], []⟩
  refine pwp_seq <| kx [] [] (zE (oNl 135 1) <| zZ) ?_
  refine pwp_seq <| kx [(5, (.own 0 135 1 0))] [(0, some (bm enc_u32 []))] (zN (oBo 0 el47 ze135 zo135) <| zM <| zZ) ?_
  refine pwp_seq <| kx [(6, (vqn 0))] [] (zM <| zZ) ?_
  refine pwp_seq <| pwp_seq <| kx [(7, (vin 0))] [] (zM <| zZ) ?_
  refine pwp_block <| pwp_loop (α := Nat × List Nat × Nat) (fun (i, o, c) => ⟨[(0, (vl 135 1 enc_u32 a)), (1, (vl 135 1 enc_u32 b)), (5, (.own 0 135 1 o.length)), (6, (vqn c)), (7, (vin i))], [(0, some (bm enc_u32 o))]⟩) (fun (i, o, c) => o.length = i ∧ Dig o ∧ i ≤ a.length ∧ c ≤ 1 ∧ val o + val (b.take i) = val (a.take i) + pw i * c) (fun (i, o, c) => a.length - i) (0, [], 0) wk ⟨rfl, dig_nil, Nat.zero_le _, Nat.zero_le _, by simp [val]⟩ ?_
  rintro ⟨i, o, c⟩ ⟨hl, hd, hi, hc, hv⟩
  have hai := hda.getD i
  have hbi := hdb.getD i
  refine pwp_seq <| pwp_seq <| kx [(13, (vb (decide (((i : Nat) : Int) < ((a.length : Nat) : Int)))))] [] (zM <| zM <| zE (oLm el47) <| zE oLt <| zZ) ?_
  refine pwp_cond rfl (fun h1 => ?_) (fun h1 => ?_)
  · replace h1 := of_decide_eq_true h1
    refine pwp_skip <| pwp_seq <| pwp_block <| pwp_seq <| kx [(8, (vqn (((1000000000 + (a.getD i 0)) - (b.getD i 0)) - c)))] [] (zM <| zM <| zE (oCl (r_group a i (by first | assumption | exact ofNat_dig _ | exact (ofNat_can _).1 | exact (grpI_can _).1))) <| zE (oAd (1000000000 + (a.getD i 0))) <| zM <| zM <| zE (oCl (r_group b i (by first | assumption | exact ofNat_dig _ | exact (ofNat_can _).1 | exact (grpI_can _).1))) <| zE (oSb ((1000000000 + (a.getD i 0)) - (b.getD i 0))) <| zM <| zE (oSb (((1000000000 + (a.getD i 0)) - (b.getD i 0)) - c)) <| zM <| zZ) ?_
    refine pwp_seq <| kf [(5, (.own 0 135 1 ((o ++ [((((1000000000 + (a.getD i 0)) - (b.getD i 0)) - c) % 1000000000)]).length)))] [(0, some (bm enc_u32 (o ++ [((((1000000000 + (a.getD i 0)) - (b.getD i 0)) - c) % 1000000000)])))] (zM <| zM <| zE (oRe ((((1000000000 + (a.getD i 0)) - (b.getD i 0)) - c) % 1000000000)) <| zE (oCv un180 in135 ((((1000000000 + (a.getD i 0)) - (b.getD i 0)) - c) % 1000000000)) <| zE (oBs el47 ze135 zo135) <| zA enc_u32 o [((((1000000000 + (a.getD i 0)) - (b.getD i 0)) - c) % 1000000000)] rfl el47 ze135 by135 <| zM <| zF) ?_
    refine kx [(6, (vqn (1 - ((((1000000000 + (a.getD i 0)) - (b.getD i 0)) - c) / 1000000000))))] [] (zM <| zE (oQu ((((1000000000 + (a.getD i 0)) - (b.getD i 0)) - c) / 1000000000)) <| zE (oSb (1 - ((((1000000000 + (a.getD i 0)) - (b.getD i 0)) - c) / 1000000000))) <| zM <| zZ) ?_
    refine kx [(7, (vin (i + 1)))] [] (zM <| zE (oAd (i + 1)) <| zM <| zZ) ?_
    exact ⟨(i + 1, o ++ [(1000000000 + a.getD i 0 - b.getD i 0 - c) % 1000000000], 1 - (1000000000 + a.getD i 0 - b.getD i 0 - c) / 1000000000), wk, ⟨by simp [hl], dig_push hd (Nat.mod_lt _ (by decide)), by omega, by omega, rminus_step hl hv (by omega) (by omega)⟩, (by first | omega | (dsimp only; omega))⟩
  · replace h1 := of_decide_eq_false h1
    have hie : i = a.length := by omega
    refine pwp_exit <| pwp_seq <| pwp_sim (publish (t := 5) (k := 0) (es := List.map enc_u32 o) rfl rfl (pub_cells _ _ (fun _ => rfl)) (map_len _ _ rfl) (pub_take _ _ (fun _ => rfl) rfl)) ?_
    refine kx [(4, (vl 135 1 enc_u32 (ofNat (val o))))] [] (zM <| zE (oCl (r_made false o hd (by omega))) <| zE (oF1 ft49_1 sh47) <| zM <| zZ) ?_
    refine pwp_ret ⟨_, (.tmp (d := (.sl 135 1 (List.map enc_u32 (ofNat (val o))))) rfl .nil), ?_⟩
    rw [rminus_end hda hdb hd hie hl hba hv]; rfl
theorem r_scaled (a : List Nat) (d : Nat) (hda : Dig a) (hd1 : d ≤ 1000000000) (hla : a.length ≤ 8796093022208) : Takes Tryz.prog 189 [(.sl 135 1 (List.map enc_u32 a)), (.val (.int .u64 (((d : Nat) : Int))))] (.sl 135 1 (List.map enc_u32 (ofNat (val a * d)))) := by
  refine fn_intro Tryz.func189 rfl cb189 rfl ?_
  show PWp _ _ _ _ ⟨[(0, (vl 135 1 enc_u32 a)), (1, (vqn d))], []⟩
  refine pwp_seq <| kx [] [] (zE (oNl 135 1) <| zZ) ?_
  refine pwp_seq <| kx [(5, (.own 0 135 1 0))] [(0, some (bm enc_u32 []))] (zN (oBo 0 el47 ze135 zo135) <| zM <| zZ) ?_
  refine pwp_seq <| kx [(6, (vqn 0))] [] (zM <| zZ) ?_
  refine pwp_seq <| pwp_seq <| kx [(7, (vin 0))] [] (zM <| zZ) ?_
  refine pwp_block <| pwp_loop (α := Nat × List Nat × Nat) (fun (i, o, c) => ⟨[(0, (vl 135 1 enc_u32 a)), (1, (vqn d)), (5, (.own 0 135 1 o.length)), (6, (vqn c)), (7, (vin i))], [(0, some (bm enc_u32 o))]⟩) (fun (i, o, c) => o.length = i ∧ Dig o ∧ i ≤ a.length ∧ c ≤ 999999999 ∧ val o + pw i * c = val (a.take i) * d) (fun (i, o, c) => a.length - i) (0, [], 0) wk ⟨rfl, dig_nil, Nat.zero_le _, Nat.zero_le _, by simp [val]⟩ ?_
  rintro ⟨i, o, c⟩ ⟨hl, hd, hi, hc, hv⟩
  have hai := hda.getD i
  have hpq : a.getD i 0 * d ≤ 999999999 * 1000000000 := Nat.mul_le_mul (by omega) hd1
  refine pwp_seq <| pwp_seq <| kx [(13, (vb (decide (((i : Nat) : Int) < ((a.length : Nat) : Int)))))] [] (zM <| zM <| zE (oLm el47) <| zE oLt <| zZ) ?_
  refine pwp_cond rfl (fun h1 => ?_) (fun h1 => ?_)
  · replace h1 := of_decide_eq_true h1
    refine pwp_skip <| pwp_seq <| pwp_block <| pwp_seq <| kx [(8, (vqn (((a.getD i 0) * d) + c)))] [] (zM <| zM <| zE (oXl el47 i (0 : Nat)) <| zE (oC1 sh135) <| zE (oCv un135 in180 (a.getD i 0)) <| zM <| zE (oMl ((a.getD i 0) * d)) <| zM <| zE (oAd (((a.getD i 0) * d) + c)) <| zM <| zZ) ?_
    refine pwp_seq <| kf [(5, (.own 0 135 1 ((o ++ [((((a.getD i 0) * d) + c) % 1000000000)]).length)))] [(0, some (bm enc_u32 (o ++ [((((a.getD i 0) * d) + c) % 1000000000)])))] (zM <| zM <| zE (oRe ((((a.getD i 0) * d) + c) % 1000000000)) <| zE (oCv un180 in135 ((((a.getD i 0) * d) + c) % 1000000000)) <| zE (oBs el47 ze135 zo135) <| zA enc_u32 o [((((a.getD i 0) * d) + c) % 1000000000)] rfl el47 ze135 by135 <| zM <| zF) ?_
    refine kx [(6, (vqn ((((a.getD i 0) * d) + c) / 1000000000)))] [] (zM <| zE (oQu ((((a.getD i 0) * d) + c) / 1000000000)) <| zM <| zZ) ?_
    refine kx [(7, (vin (i + 1)))] [] (zM <| zE (oAd (i + 1)) <| zM <| zZ) ?_
    exact ⟨(i + 1, o ++ [(a.getD i 0 * d + c) % 1000000000], (a.getD i 0 * d + c) / 1000000000), wk, ⟨by simp [hl], dig_push hd (Nat.mod_lt _ (by decide)), by omega, by omega, rscaled_step hl hv rfl⟩, (by first | omega | (dsimp only; omega))⟩
  · replace h1 := of_decide_eq_false h1
    have hie : i = a.length := by omega
    rw [take_all (by omega)] at hv
    have hp := val_push (c := c) hl
    refine pwp_exit <| pwp_seq <| kf [(4, (vl 135 1 enc_u32 (ofNat (val (o ++ [c]))))), (5, .junk)] [(0, none)] (zM <| zM <| zE (oCv un180 in135 c) <| zE (oBs el47 ze135 zo135) <| zAQ enc_u32 o [c] rfl el47 ze135 by135 <| zE (oCl (r_made false (o ++ [c]) (dig_push hd (by omega)) (by simp only [List.length_append, List.length_cons, List.length_nil]; omega))) <| zE (oF1 ft49_1 sh47) <| zM <| zF) ?_
    refine pwp_ret ⟨_, (.tmp (d := (.sl 135 1 (List.map enc_u32 (ofNat (val (o ++ [c])))))) rfl .nil), ?_⟩
    rw [hp, hv]; rfl
theorem r_shifted (a : List Nat) (d : Nat) (hda : Dig a) (hd1 : d < 1000000000) (hla : a.length ≤ 8796093022208) : Takes Tryz.prog 190 [(.sl 135 1 (List.map enc_u32 a)), (.val (.int .u32 (((d : Nat) : Int))))] (.sl 135 1 (List.map enc_u32 (ofNat (d + 1000000000 * val a)))) := by
  refine fn_intro Tryz.func190 rfl cb190 rfl ?_
  show PWp _ _ _ _ ⟨[(0, (vl 135 1 enc_u32 a)), (1, (vwn d))], []⟩
  refine pwp_seq <| kx [] [] (zE (oNl 135 1) <| zZ) ?_
  refine pwp_seq <| kf [(4, (vl 135 1 enc_u32 (ofNat (val ([d] ++ a)))))] [(0, none)] (zM <| zN (oBo 0 el47 ze135 zo135) <| zM <| zAQ enc_u32 [d] a rfl el47 ze135 by135 <| zE (oCl (r_made false ([d] ++ a) (dig_append.2 ⟨dig_cons.2 ⟨hd1, dig_nil⟩, hda⟩) (by simp only [List.length_append, List.length_cons, List.length_nil]; omega))) <| zE (oF1 ft49_1 sh47) <| zM <| zF) ?_
  refine pwp_ret ⟨_, (.tmp (d := (.sl 135 1 (List.map enc_u32 (ofNat (val ([d] ++ a)))))) rfl .nil), ?_⟩
  rfl
end Go.Proofs.YtihgdjljnaekmaaGreat
