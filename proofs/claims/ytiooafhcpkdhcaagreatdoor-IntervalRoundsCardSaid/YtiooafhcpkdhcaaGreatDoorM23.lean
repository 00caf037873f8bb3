/- Part 23 of a proof: rules, plain facts, and functions walked. -/
import Derived.Test.YtiooafhcpkdhcaaGreatDoorM22
import Derived.Test.YtiooafhcpkdhcaaGreatDoorM10
import Derived.Test.YtiooafhcpkdhcaaGreatDoorM9
namespace Go.Proofs.YtiooafhcpkdhcaaGreatDoor
open Go.Fid
set_option maxRecDepth 4000
set_option linter.unusedVariables false
set_option linter.unusedSimpArgs false
theorem cb155 : callB Tryz.prog 155 = true := by kernel_rfl
theorem cb164 : callB Tryz.prog 164 = true := by kernel_rfl
theorem d_rroot (z : Int) (hz : IOk (ofZ z) z 200) (hz0 : 0 ≤ z) : Takes Tryz.prog 164 [(encI (ofZ z))] (.tup [(encI (ofZ (rootI z))), (.val (.int .i64 (0)))]) := by
  have hzl := hz.ln
  have hzg := hz.l
  have hzb := log_cap hzl
  refine fn_intro Tryz.func164 rfl cb164 rfl ?_
  show PWp _ _ _ _ ⟨[(0, (.d (encI (ofZ z))))], []⟩
  refine pwp_seq <| kx [(1, (.ref 0 0)), (2, (.ref 1 0))] [(0, some (bx (encI (ofZ z)))), (1, some (bx (encI (RInt.mk false []))))] (zN (oBx 0) <| zN (oAl 1 ze24 zo24) <| zM <| zZ) ?_
  refine pwp_seq <| kx [] [(0, some (bx (encI (ofZ z))))] (zR (oLa sh24) <| zE (oQd (encI (ofZ (toZ (ofZ z)))) (encI (ofZ z)) (oCl (r_value (ofZ z) (by omega))) (by exact (congrArg encI (by rw [toZ_ofZ])))) <| zT (oSt sh24) <| zZ) ?_
  refine pwp_seq <| pwp_seq <| kx [(14, (vb ((ofZ z).neg)))] [] (zE (oFr fo24_0) <| zR (oL1 sh4) <| zZ) ?_
  refine pwp_cond (b := (ofZ z).neg) rfl (fun h1 => ?_) (fun h1 => ?_)
  · exact (neg_abs hz0 h1).elim
  · refine pwp_skip <| pwp_seq <| kd [(4, (.ref 2 0)), (5, (.ref 3 0))] [(2, some (bx (encI (ofZ 0)))), (3, some (bx (encI (ofZ (z + 1)))))] mo (wE (oCl (r_of 0 (by decide) (by decide))) <| wR (oLa sh24) <| wE (oCl (r_of 1 (by decide) (by decide))) <| wE (oCl (rs_add hz (iok_small (z := 1) (by decide)) (by decide) (by decide))) <| wN (oAl 2 ze24 zo24) <| wN (oAl 3 ze24 zo24) <| wT (oSt sh24) <| wT (oSt sh24) <| wZ) ?_
    refine pwp_seq <| pwp_seq <| kx [(22, (vb (decide (0 < (logI z)))))] [] (zR (oLa sh24) <| zE (oCl (d_log z (iu hz))) <| zE oGt <| zZ) ?_
    refine pwp_cond (b := decide (0 < (logI z))) rfl (fun h2 => ?_) (fun h2 => ?_)
    · replace h2 := of_decide_eq_true h2
      obtain ⟨hz1, hlg⟩ := lg_gt hz0 h2
      refine pwp_seq <| kd [(6, (.ref 4 0))] [(4, some (bx (encI (ofZ ((2 ^ (z.natAbs.log2 / 2 + 1) : Nat) : Int)))))] mo (wE (oCl (r_of 2 (by decide) (by decide))) <| wR (oLa sh24) <| wE (oCl (d_log z (iu hz))) <| wE (oQu (z.natAbs.log2 / 2) (hr := by exact (by rw [hlg]; exact quo_i64 _ 2 (by omega)))) <| wE (oAd (z.natAbs.log2 / 2 + 1)) <| wE (oCl (d_rpow (z.natAbs.log2 / 2 + 1) (by omega))) <| wM <| wE oEx <| wE oEx <| wN (oAl 4 ze24 zo24) <| wT (oSt sh24) <| wM <| wZ) ?_
      refine kx [] [(3, some (bx (encI (ofZ ((2 ^ (z.natAbs.log2 / 2 + 1) : Nat) : Int)))))] (zR (oLa sh24) <| zT (oSt sh24) <| zZ) ?_
      refine pwp_seq <| pwp_block <| pwp_loop (α := Int × Int) (fun (l, h) => ⟨[(1, (.ref 0 0)), (2, (.ref 1 0)), (4, (.ref 2 0)), (5, (.ref 3 0))], [(0, some (bx (encI (ofZ z)))), (1, some (bx (encI (RInt.mk false [])))), (2, some (bx (encI (ofZ l)))), (3, some (bx (encI (ofZ h))))]⟩) (fun (l, h) => (0 ≤ l ∧ l < h ∧ l * l ≤ z ∧ z < h * h) ∧ lenZ h ≤ 4100) (fun (l, h) => (h - l).toNat) (0, ((2 ^ (z.natAbs.log2 / 2 + 1) : Nat) : Int)) wk ⟨⟨Int.le_refl 0, two_pos _, hz0, root_pow hz1⟩, two_cap (by omega)⟩ ?_
      rintro ⟨l, h⟩ ⟨⟨hl0, hlh, hl2, hh2⟩, hhn⟩
      have hih : IOk (ofZ h) h 4100 := iok_of hhn
      have hil : IOk (ofZ l) l 4100 := iok_of (Nat.le_trans (lenZ_of_le (by omega)) hhn)
      refine pwp_seq <| pwp_seq <| kx [(38, (vb (decide (0 < (cmpI (h - l) 1)))))] [] (zR (oLa sh24) <| zR (oLa sh24) <| zE (oCl (rs_sub hih hil (by decide) (by decide))) <| zE (oCl (r_of 1 (by decide) (by decide))) <| zE (oCl (rs_compare (iok_sub (k := 4101) hih hil (by decide)) (iok_small (z := 1) (by decide)) (by decide) (by decide))) <| zE oGt <| zZ) ?_
      refine pwp_cond (b := decide (0 < (cmpI (h - l) 1))) rfl (fun h3 => ?_) (fun h3 => ?_)
      · replace h3 := of_decide_eq_true h3
        have hmd := half_bd hl0 (cmpI_gt0.1 h3)
        refine pwp_skip <| pwp_block <| pwp_seq <| kx [(8, (.ref 5 0))] [(5, some (bx (encI (ofZ ((l + h).fdiv 2))))), (6, none)] (zR (oLa sh24) <| zR (oLa sh24) <| zE (oCl (rs_add hil hih (by decide) (by decide))) <| zE (oCl (r_of 2 (by decide) (by decide))) <| zE (oCl (rs_divide (iok_add (k := 4101) hil hih (by decide)) (iok_small (z := 2) (by decide)) (by decide) (by decide) (by omega))) <| zM <| zE oEx <| zE oEx <| zE oEx <| zN (oAl 5 ze24 zo24) <| zN (oAl 6 ze24 zo24) <| zT (oSt sh24) <| zT (oSt sh24) <| zM <| zZ) ?_
        refine pwp_seq <| kd [(53, (vb (decide ((cmpI (((l + h).fdiv 2) * ((l + h).fdiv 2)) z) ≤ 0))))] [] mo (wR (oLa sh24) <| wR (oLa sh24) <| wE (oCl (rs_mul (iok_fdiv (k := 4102) (iok_add (k := 4101) hil hih (by decide)) (iok_small (z := 2) (by decide)) (by decide)) (iok_fdiv (k := 4102) (iok_add (k := 4101) hil hih (by decide)) (iok_small (z := 2) (by decide)) (by decide)) (by decide) (by decide))) <| wR (oLa sh24) <| wE (oCl (rs_compare (iok_mul (k := 8204) (iok_fdiv (k := 4102) (iok_add (k := 4101) hil hih (by decide)) (iok_small (z := 2) (by decide)) (by decide)) (iok_fdiv (k := 4102) (iok_add (k := 4101) hil hih (by decide)) (iok_small (z := 2) (by decide)) (by decide)) (by decide)) hz (by decide) (by decide))) <| wE oLe <| wZ) ?_
        refine pwp_cond rfl (fun h4 => ?_) (fun h4 => ?_)
        · replace h4 := of_decide_eq_true h4
          refine kx [] [(2, some (bx (encI (ofZ ((l + h).fdiv 2)))))] (zR (oLa sh24) <| zT (oSt sh24) <| zZ) ?_
          exact ⟨((l + h).fdiv 2, h), wk, ⟨⟨by omega, by omega, cmpI_le0.1 h4, hh2⟩, hhn⟩, (by first | omega | (dsimp only; omega))⟩
        · replace h4 := of_decide_eq_false h4
          refine kx [] [(3, some (bx (encI (ofZ ((l + h).fdiv 2)))))] (zR (oLa sh24) <| zT (oSt sh24) <| zZ) ?_
          exact ⟨(l, (l + h).fdiv 2), wk, ⟨⟨hl0, by omega, hl2, sq_gt h4⟩, lenZ_mid hl0 (by omega) (by omega) hhn⟩, (by first | omega | (dsimp only; omega))⟩
      · replace h3 := of_decide_eq_false h3
        refine pwp_exit <| pwp_seq <| kx [(3, (vin 0))] [(1, some (bx (encI (ofZ l))))] (zR (oLa sh24) <| zT (oSt sh24) <| zM <| zZ) ?_
        refine pwp_ret ⟨_, (res_a (cs := (bx (encI (ofZ l)))) (d := (encI (ofZ l))) rfl rfl sh24 rfl rfl (.tmp (d := (.val (.int .i64 (0)))) rfl .nil)), ?_⟩
        rw [← root_end hz0 hl0 hl2 hh2 (by have := h3; rw [cmpI_gt0] at this; omega) hlh]; rfl
    · replace h2 := of_decide_eq_false h2
      refine pwp_skip <| pwp_seq <| pwp_block <| pwp_loop (α := Int × Int) (fun (l, h) => ⟨[(1, (.ref 0 0)), (2, (.ref 1 0)), (4, (.ref 2 0)), (5, (.ref 3 0))], [(0, some (bx (encI (ofZ z)))), (1, some (bx (encI (RInt.mk false [])))), (2, some (bx (encI (ofZ l)))), (3, some (bx (encI (ofZ h))))]⟩) (fun (l, h) => (0 ≤ l ∧ l < h ∧ l * l ≤ z ∧ z < h * h) ∧ lenZ h ≤ 4100) (fun (l, h) => (h - l).toNat) (0, (z + 1)) wk ⟨⟨Int.le_refl 0, by omega, hz0, root_top hz0⟩, Nat.le_trans (lenZ_add (k := 201) hz.ln (lenZ_one (z := 1) (by decide)) (by decide)) (by decide)⟩ ?_
      rintro ⟨l, h⟩ ⟨⟨hl0, hlh, hl2, hh2⟩, hhn⟩
      have hih : IOk (ofZ h) h 4100 := iok_of hhn
      have hil : IOk (ofZ l) l 4100 := iok_of (Nat.le_trans (lenZ_of_le (by omega)) hhn)
      refine pwp_seq <| pwp_seq <| kx [(38, (vb (decide (0 < (cmpI (h - l) 1)))))] [] (zR (oLa sh24) <| zR (oLa sh24) <| zE (oCl (rs_sub hih hil (by decide) (by decide))) <| zE (oCl (r_of 1 (by decide) (by decide))) <| zE (oCl (rs_compare (iok_sub (k := 4101) hih hil (by decide)) (iok_small (z := 1) (by decide)) (by decide) (by decide))) <| zE oGt <| zZ) ?_
      refine pwp_cond (b := decide (0 < (cmpI (h - l) 1))) rfl (fun h5 => ?_) (fun h5 => ?_)
      · replace h5 := of_decide_eq_true h5
        have hmd := half_bd hl0 (cmpI_gt0.1 h5)
        refine pwp_skip <| pwp_block <| pwp_seq <| kx [(8, (.ref 7 0))] [(7, some (bx (encI (ofZ ((l + h).fdiv 2))))), (8, none)] (zR (oLa sh24) <| zR (oLa sh24) <| zE (oCl (rs_add hil hih (by decide) (by decide))) <| zE (oCl (r_of 2 (by decide) (by decide))) <| zE (oCl (rs_divide (iok_add (k := 4101) hil hih (by decide)) (iok_small (z := 2) (by decide)) (by decide) (by decide) (by omega))) <| zM <| zE oEx <| zE oEx <| zE oEx <| zN (oAl 7 ze24 zo24) <| zN (oAl 8 ze24 zo24) <| zT (oSt sh24) <| zT (oSt sh24) <| zM <| zZ) ?_
        refine pwp_seq <| kd [(53, (vb (decide ((cmpI (((l + h).fdiv 2) * ((l + h).fdiv 2)) z) ≤ 0))))] [] mo (wR (oLa sh24) <| wR (oLa sh24) <| wE (oCl (rs_mul (iok_fdiv (k := 4102) (iok_add (k := 4101) hil hih (by decide)) (iok_small (z := 2) (by decide)) (by decide)) (iok_fdiv (k := 4102) (iok_add (k := 4101) hil hih (by decide)) (iok_small (z := 2) (by decide)) (by decide)) (by decide) (by decide))) <| wR (oLa sh24) <| wE (oCl (rs_compare (iok_mul (k := 8204) (iok_fdiv (k := 4102) (iok_add (k := 4101) hil hih (by decide)) (iok_small (z := 2) (by decide)) (by decide)) (iok_fdiv (k := 4102) (iok_add (k := 4101) hil hih (by decide)) (iok_small (z := 2) (by decide)) (by decide)) (by decide)) hz (by decide) (by decide))) <| wE oLe <| wZ) ?_
        refine pwp_cond rfl (fun h6 => ?_) (fun h6 => ?_)
        · replace h6 := of_decide_eq_true h6
          refine kx [] [(2, some (bx (encI (ofZ ((l + h).fdiv 2)))))] (zR (oLa sh24) <| zT (oSt sh24) <| zZ) ?_
          exact ⟨((l + h).fdiv 2, h), wk, ⟨⟨by omega, by omega, cmpI_le0.1 h6, hh2⟩, hhn⟩, (by first | omega | (dsimp only; omega))⟩
        · replace h6 := of_decide_eq_false h6
          refine kx [] [(3, some (bx (encI (ofZ ((l + h).fdiv 2)))))] (zR (oLa sh24) <| zT (oSt sh24) <| zZ) ?_
          exact ⟨(l, (l + h).fdiv 2), wk, ⟨⟨hl0, by omega, hl2, sq_gt h6⟩, lenZ_mid hl0 (by omega) (by omega) hhn⟩, (by first | omega | (dsimp only; omega))⟩
      · replace h5 := of_decide_eq_false h5
        refine pwp_exit <| pwp_seq <| kx [(3, (vin 0))] [(1, some (bx (encI (ofZ l))))] (zR (oLa sh24) <| zT (oSt sh24) <| zM <| zZ) ?_
        refine pwp_ret ⟨_, (res_a (cs := (bx (encI (ofZ l)))) (d := (encI (ofZ l))) rfl rfl sh24 rfl rfl (.tmp (d := (.val (.int .i64 (0)))) rfl .nil)), ?_⟩
        rw [← root_end hz0 hl0 hl2 hh2 (by have := h5; rw [cmpI_gt0] at this; omega) hlh]; rfl
theorem d_root (z : Int) (hz : IOk (ofZ z) z 200) (hz0 : 0 ≤ z) : Takes Tryz.prog 155 [(encI (ofZ z))] (.tup [(encI (ofZ (rootI z))), (.val (.int .i64 (0)))]) := by
  have hzl : (ofNat z.natAbs).length ≤ 200 := hz.ln
  have hzg := hz.l
  refine fn_intro Tryz.func155 rfl cb155 rfl ?_
  show PWp _ _ _ _ ⟨[(0, (.d (encI (ofZ z))))], []⟩
  refine pwp_seq <| kx [(1, (.ref 0 0)), (2, (.ref 1 0))] [(0, some (bx (encI (ofZ z)))), (1, some (bx (encI (RInt.mk false []))))] (zN (oBx 0) <| zN (oAl 1 ze24 zo24) <| zM <| zZ) ?_
  refine pwp_seq <| kx [(4, (vl 147 1 enc_u32 (ofNat (Int.natAbs z))))] [] (zR (oLa sh24) <| zE (oQd (.sl 147 1 (List.map enc_u32 (grpI (ofZ z)))) (.sl 147 1 (List.map enc_u32 (ofNat (Int.natAbs z)))) (oCl (t_groups (ofZ z) (by omega))) (by exact (congrArg (fun l => Dat.sl 147 1 (List.map enc_u32 l)) (grpI_ofZ z)))) <| zM <| zZ) ?_
  refine pwp_seq <| pwp_seq <| kx [(14, (vb ((((ofNat (Int.natAbs z)).length : Nat) : Int) == 0)))] [] (zM <| zE (oLm el22 (L := (ofNat (Int.natAbs z)))) <| zE oEq <| zZ) ?_
  refine pwp_cond rfl (fun h1 => ?_) (fun h1 => ?_)
  · replace h1 := eq_of_beq h1
    refine pwp_seq <| kx [(3, (vin 0))] [(1, some (bx (encI (RInt.mk false []))))] (zE (oBd pl24 ze24 zo24) <| zT (oSt sh24) <| zM <| zZ) ?_
    refine pwp_ret ⟨_, (res_a (cs := (bx (encI (RInt.mk false [])))) (d := (encI (RInt.mk false []))) rfl rfl sh24 rfl rfl (.tmp (d := (.val (.int .i64 (0)))) rfl .nil)), ?_⟩
    rw [root_nil h1]; rfl
  · replace h1 := ne_of_beq_false h1
    refine pwp_skip <| pwp_seq <| pwp_seq <| kx [(17, (vb ((ofZ z).neg)))] [] (zE (oFr fo24_0) <| zR (oL1 sh4) <| zZ) ?_
    refine pwp_cond (b := (ofZ z).neg) rfl (fun h2 => ?_) (fun h2 => ?_)
    · exact (neg_abs hz0 h2).elim
    · have hX : 0 < z.natAbs := by rcases Nat.eq_zero_or_pos z.natAbs with e | e; exact absurd (by rw [e, ofNat_zero]; rfl) h1; exact e
      refine pwp_skip <| pwp_seq <| kf [(5, (.own 2 147 1 (((List.replicate (((ofNat (Int.natAbs z)).length + 1) / 2) 0) ++ [1]).length)))] [(2, some (bm enc_u32 ((List.replicate (((ofNat (Int.natAbs z)).length + 1) / 2) 0) ++ [1])))] (zM <| zE (oLm el22 (L := (ofNat (Int.natAbs z)))) <| zE (oAd ((ofNat (Int.natAbs z)).length + 1)) <| zE (oQu (((ofNat (Int.natAbs z)).length + 1) / 2)) <| zN (oMk 2 enc_u32 (0 : Nat) (((ofNat (Int.natAbs z)).length + 1) / 2) (((ofNat (Int.natAbs z)).length + 1) / 2) el22 ze147 zo147 by147) <| zE (oBs el22 ze147 zo147) <| zA enc_u32 (List.replicate (((ofNat (Int.natAbs z)).length + 1) / 2) 0) [1] (by rw [List.length_replicate]) el22 ze147 by147 <| zM <| zF) ?_
      refine pwp_block <| pwp_sim (publish (t := 5) (k := 2) (es := List.map enc_u32 ((List.replicate (((ofNat (Int.natAbs z)).length + 1) / 2) 0) ++ [1])) rfl rfl (pub_cells _ _ (fun _ => rfl)) (map_len _ _ rfl) (pub_take _ _ (fun _ => rfl) rfl)) ?_
      refine pwp_loop (α := List Nat) (fun r => ⟨[(2, (.ref 1 0)), (4, (vl 147 1 enc_u32 (ofNat (Int.natAbs z)))), (5, (vl 147 1 enc_u32 r))], [(1, some (bx (encI (RInt.mk false []))))]⟩) (fun r => (Cano r ∧ 0 < val r ∧ z.natAbs < (val r + 1) * (val r + 1)) ∧ r.length ≤ 400) (fun r => val r) (List.replicate (((ofNat z.natAbs).length + 1) / 2) 0 ++ [1]) wk ⟨⟨nw_cano _, by rw [nw_start]; exact pw_pos _, nw_top⟩, by simp; omega⟩ ?_
      rintro r ⟨⟨hcr, hr0, hru⟩, hrl⟩
      have hcg : Cano (ofNat z.natAbs) := ofNat_can _
      have hdr := hcr.1
      obtain ⟨q1, q2, q3⟩ := nw_lens (X := z.natAbs) (by omega) hrl hcr
      have hdq : Dig (ofNat (val (ofNat z.natAbs) / val r)) := ofNat_dig _
      have hds : Dig (ofNat (val r + val (ofNat (val (ofNat z.natAbs) / val r)))) := ofNat_dig _
      have hcn : Cano (ofNat (val (ofNat (val r + val (ofNat (val (ofNat (Int.natAbs z)) / val r)))) / 2)) := ofNat_can _
      refine pwp_block <| pwp_seq <| kx [(6, (vl 147 1 enc_u32 (ofNat (val (ofNat (Int.natAbs z)) / val r))))] [] (zM <| zM <| zE (oCl (t_over (ofNat (Int.natAbs z)) r (by assumption) (by assumption) (by omega) (by omega) (by omega))) <| zM <| zE oEx <| zE oEx <| zM <| zM <| zZ) ?_
      refine pwp_seq <| kx [(8, (vl 147 1 enc_u32 (ofNat (val (ofNat (val r + val (ofNat (val (ofNat (Int.natAbs z)) / val r)))) / 2))))] [] (zM <| zM <| zE (oCl (t_plus r (ofNat (val (ofNat (Int.natAbs z)) / val r)) (by assumption) (by assumption) (by omega) (by omega))) <| zE (oCl (t_short (ofNat (val r + val (ofNat (val (ofNat (Int.natAbs z)) / val r)))) 2 (by assumption) (by omega) (by omega) (by omega))) <| zM <| zE oEx <| zE oEx <| zM <| zM <| zZ) ?_
      refine pwp_seq <| pwp_seq <| kx [(42, (vb (decide (0 ≤ (cmpI ((val (ofNat (val (ofNat (val r + val (ofNat (val (ofNat (Int.natAbs z)) / val r)))) / 2)) : Nat) : Int) ((val r : Nat) : Int))))))] [] (zM <| zM <| zE (oCl (t_compare (ofNat (val (ofNat (val r + val (ofNat (val (ofNat (Int.natAbs z)) / val r)))) / 2)) r (by assumption) (by assumption) (by omega))) <| zE oGe <| zZ) ?_
      refine pwp_cond rfl (fun h3 => ?_) (fun h3 => ?_)
      · replace h3 := of_decide_eq_true h3
        refine pwp_seq <| kx [(3, (vin 0))] [(1, some (bx (encI (mkI false (val r)))))] (zM <| zE (oCl (t_made false r (by assumption) (by omega))) <| zT (oSt sh24) <| zM <| zZ) ?_
        refine pwp_ret ⟨_, (res_a (cs := (bx (encI (mkI false (val r))))) (d := (encI (mkI false (val r)))) rfl rfl sh24 rfl rfl (.tmp (d := (.val (.int .i64 (0)))) rfl .nil)), ?_⟩
        rw [nw_end hz0 hr0 hru (nw_stop h3)]; rfl
      · replace h3 := of_decide_eq_false h3
        refine pwp_skip <| kx [(5, (vl 147 1 enc_u32 (ofNat (val (ofNat (val r + val (ofNat (val (ofNat (Int.natAbs z)) / val r)))) / 2))))] [] (zM <| zM <| zZ) ?_
        exact ⟨(ofNat (val (ofNat (val r + val (ofNat (val (ofNat (Int.natAbs z)) / val r)))) / 2)), wk, (by obtain ⟨n1, n2, n3, n4⟩ := nw_ok z.natAbs hr0 hX h3; exact ⟨⟨n1, n2, n3⟩, Nat.le_trans (can_len n1 hcr (Nat.le_of_lt n4)) hrl⟩), (by obtain ⟨n1, n2, n3, n4⟩ := nw_ok z.natAbs hr0 hX h3; exact n4)⟩
end Go.Proofs.YtiooafhcpkdhcaaGreatDoor
namespace Go.Proofs.YtiooafhcpkdhcaaGreatDoor
open Go.Fid
set_option maxRecDepth 4000
set_option linter.unusedVariables false
set_option linter.unusedSimpArgs false
theorem cb149 : callB Tryz.prog 149 = true := by kernel_rfl
theorem cb150 : callB Tryz.prog 150 = true := by kernel_rfl
theorem cb153 : callB Tryz.prog 153 = true := by kernel_rfl
theorem cb161 : callB Tryz.prog 161 = true := by kernel_rfl
theorem cb163 : callB Tryz.prog 163 = true := by kernel_rfl
theorem d_floor (x : Rat) (hx : QL x 200) : Takes Tryz.prog 149 [(encR (ofQ x))] (encI (ofZ (flZ x))) := by
  refine fn_intro Tryz.func149 rfl cb149 rfl ?_
  show PWp _ _ _ _ ⟨[(0, (.d (encR (ofQ x))))], []⟩
  refine pwp_seq <| kx [(1, (.ref 0 0)), (2, (.ref 1 0))] [(0, some (bx (encR (ofQ x)))), (1, some (bx (encI (RInt.mk false []))))] (zN (oBx 0) <| zN (oAl 1 ze24 zo24) <| zZ) ?_
  refine pwp_seq <| kx [] [(0, some (bx (encR (ofQ x))))] (zR (oLa sh26) <| zE (oCl (f_value (ofQ x) x (qok_up (qok_of hx) (by decide)))) <| zT (oSt sh26) <| zZ) ?_
  refine pwp_seq ?_
  have bn1 : IOk (ofZ (x.num.fdiv (x.den : Int))) (x.num.fdiv (x.den : Int)) 201 := (iok_fdiv (k := 201) (qok_num hx) (qok_den hx) (by decide))
  refine kx [(3, (.ref 2 0))] [(2, some (bx (encI (ofZ (x.num.fdiv (x.den : Int)))))), (3, none)] (zE (oFr fo26_0) <| zR (oLa sh24) <| zE (oFr fo26_1) <| zR (oLa sh24) <| zE (oCl (s_divide (qok_num hx) (qok_den hx) (by decide) (by decide) (by have := x.den_nz; omega))) <| zM <| zE oEx <| zE oEx <| zE oEx <| zN (oAl 2 ze24 zo24) <| zN (oAl 3 ze24 zo24) <| zT (oSt sh24) <| zT (oSt sh24) <| zM <| zZ) ?_
  refine pwp_seq <| kx [] [(1, some (bx (encI (ofZ (x.num.fdiv (x.den : Int))))))] (zR (oLa sh24) <| zT (oSt sh24) <| zZ) ?_
  refine pwp_ret ⟨_, (res_a (cs := (bx (encI (ofZ (x.num.fdiv (x.den : Int)))))) (d := (encI (ofZ (x.num.fdiv (x.den : Int))))) rfl rfl sh24 rfl rfl .nil), ?_⟩
  rfl
theorem d_ceil (x : Rat) (hx : QL x 190) : Takes Tryz.prog 150 [(encR (ofQ x))] (encI (ofZ (-(flZ (-x))))) := by
  refine fn_intro Tryz.func150 rfl cb150 rfl ?_
  show PWp _ _ _ _ ⟨[(0, (.d (encR (ofQ x))))], []⟩
  refine pwp_seq <| kx [(1, (.ref 0 0)), (2, (.ref 1 0))] [(0, some (bx (encR (ofQ x)))), (1, some (bx (encI (RInt.mk false []))))] (zN (oBx 0) <| zN (oAl 1 ze24 zo24) <| zZ) ?_
  refine pwp_seq ?_
  have bn1 : IOk (ofZ (-(flZ (-x)))) (-(flZ (-x))) 191 := (iok_neg (iok_flz (k := 191) (ql_neg hx) (by decide)))
  refine kx [] [(1, some (bx (encI (ofZ (-(flZ (-x)))))))] (zR (oLa sh26) <| zE (oCl (f_neg (ofQ x) x (qok_up (qok_of hx) (by decide)))) <| zE (oCl (d_floor (-x) (ql_up (ql_neg hx) (by decide)))) <| zE (oCl (s_neg (iok_flz (k := 191) (ql_neg hx) (by decide)) (by decide))) <| zT (oSt sh24) <| zZ) ?_
  refine pwp_ret ⟨_, (res_a (cs := (bx (encI (ofZ (-(flZ (-x))))))) (d := (encI (ofZ (-(flZ (-x)))))) rfl rfl sh24 rfl rfl .nil), ?_⟩
  rfl
theorem dr_floor (x : Rat) (hx : QL x 200) : Takes Tryz.prog 161 [(encR (ofQ x))] (encI (ofZ (flZ x))) := by
  refine fn_intro Tryz.func161 rfl cb161 rfl ?_
  show PWp _ _ _ _ ⟨[(0, (.d (encR (ofQ x))))], []⟩
  refine pwp_seq <| kx [(1, (.ref 0 0)), (2, (.ref 1 0))] [(0, some (bx (encR (ofQ x)))), (1, some (bx (encI (RInt.mk false []))))] (zN (oBx 0) <| zN (oAl 1 ze24 zo24) <| zZ) ?_
  refine pwp_seq <| kx [(3, (.ref 2 0))] [(2, some (bx (encR (ofQ x))))] (zR (oLa sh26) <| zE (oCl (g_value (ofQ x) x (qok_up (qok_of hx) (by decide)))) <| zN (oAl 2 ze26 zo26) <| zT (oSt sh26) <| zZ) ?_
  refine pwp_seq ?_
  have bn1 : IOk (ofZ (x.num.fdiv (x.den : Int))) (x.num.fdiv (x.den : Int)) 201 := (iok_fdiv (k := 201) (qok_num hx) (qok_den hx) (by decide))
  refine kx [(4, (.ref 3 0))] [(3, some (bx (encI (ofZ (x.num.fdiv (x.den : Int)))))), (4, none)] (zE (oFr fo26_0) <| zR (oLa sh24) <| zE (oFr fo26_1) <| zR (oLa sh24) <| zE (oCl (rs_divide (qok_num hx) (qok_den hx) (by decide) (by decide) (by have := x.den_nz; omega))) <| zM <| zE oEx <| zE oEx <| zE oEx <| zN (oAl 3 ze24 zo24) <| zN (oAl 4 ze24 zo24) <| zT (oSt sh24) <| zT (oSt sh24) <| zM <| zZ) ?_
  refine pwp_seq <| kx [] [(1, some (bx (encI (ofZ (x.num.fdiv (x.den : Int))))))] (zR (oLa sh24) <| zT (oSt sh24) <| zZ) ?_
  refine pwp_ret ⟨_, (res_a (cs := (bx (encI (ofZ (x.num.fdiv (x.den : Int)))))) (d := (encI (ofZ (x.num.fdiv (x.den : Int))))) rfl rfl sh24 rfl rfl .nil), ?_⟩
  rfl
theorem dr_ceil (x : Rat) (hx : QL x 190) : Takes Tryz.prog 163 [(encR (ofQ x))] (encI (ofZ (-(flZ (-x))))) := by
  refine fn_intro Tryz.func163 rfl cb163 rfl ?_
  show PWp _ _ _ _ ⟨[(0, (.d (encR (ofQ x))))], []⟩
  refine pwp_seq <| kx [(1, (.ref 0 0)), (2, (.ref 1 0))] [(0, some (bx (encR (ofQ x)))), (1, some (bx (encI (RInt.mk false []))))] (zN (oBx 0) <| zN (oAl 1 ze24 zo24) <| zZ) ?_
  refine pwp_seq ?_
  have bn1 : IOk (ofZ (-(flZ (-x)))) (-(flZ (-x))) 191 := (iok_neg (iok_flz (k := 191) (ql_neg hx) (by decide)))
  refine kx [] [(1, some (bx (encI (ofZ (-(flZ (-x)))))))] (zR (oLa sh26) <| zE (oCl (g_neg (ofQ x) x (qok_up (qok_of hx) (by decide)))) <| zE (oCl (dr_floor (-x) (ql_up (ql_neg hx) (by decide)))) <| zE (oCl (rs_neg (iok_flz (k := 191) (ql_neg hx) (by decide)) (by decide))) <| zT (oSt sh24) <| zZ) ?_
  refine pwp_ret ⟨_, (res_a (cs := (bx (encI (ofZ (-(flZ (-x))))))) (d := (encI (ofZ (-(flZ (-x)))))) rfl rfl sh24 rfl rfl .nil), ?_⟩
  rfl
theorem d_scaled (x : Rat) (hx : QL x 100) (k : Nat) (hk : k ≤ 512) : Takes Tryz.prog 153 [(encR (ofQ x)), (.val (.int .i64 (((k : Nat) : Int))))] (.tup [(encR (ofQ (x * ((((2 ^ k : Nat) : Int) : Int) : Rat)))), (encI (ofZ ((2 ^ k : Nat) : Int))), (.val (.int .i64 (0)))]) := by
  refine fn_intro Tryz.func153 rfl cb153 rfl ?_
  show PWp _ _ _ _ ⟨[(0, (.d (encR (ofQ x)))), (1, (vin k))], []⟩
  refine pwp_seq <| kx [(2, (.ref 0 0)), (4, (.ref 1 0)), (5, (.ref 2 0))] [(0, some (bx (encR (ofQ x)))), (1, some (bx (encR (RRat.mk (RInt.mk false []) (RInt.mk false []))))), (2, some (bx (encI (RInt.mk false []))))] (zN (oBx 0) <| zN (oAl 1 ze26 zo26) <| zN (oAl 2 ze24 zo24) <| zM <| zZ) ?_
  refine pwp_seq <| pwp_seq <| kx [(14, (vb false))] [] (zM <| zE (oBk false oLt (by exact decide_eq_false (show ¬ ((k : Nat) : Int) < 0 by omega))) <| zM <| zM <| zE (oBk false oGt (by exact decide_eq_false (show ¬ 512 < ((k : Nat) : Int) by omega))) <| zE oPf <| zZ) ?_
  refine pwp_cond (b := false) (by kernel_rfl) (fun h => by cases h) (fun _ => ?_)
  refine pwp_skip <| pwp_seq <| kx [(7, (.ref 3 0))] [(3, some (bx (encI (ofZ ((2 ^ k : Nat) : Int)))))] (zE (oCl (t_of 2 (by decide) (by decide))) <| zM <| zE (oCl (d_pow k (by omega))) <| zM <| zE oEx <| zE oEx <| zN (oAl 3 ze24 zo24) <| zT (oSt sh24) <| zM <| zZ) ?_
  refine pwp_seq ?_
  have bn1 : QL (x * ((((2 ^ k : Nat) : Int) : Int) : Rat)) 120 := (ql_mul (k := 120) hx (ql_2s (k := k) (by omega)) (by decide))
  refine kd [(6, (vin 0))] [(1, some (bx (encR (ofQ (x * ((((2 ^ k : Nat) : Int) : Int) : Rat)))))), (2, some (bx (encI (ofZ ((2 ^ k : Nat) : Int)))))] mo (wR (oLa sh26) <| wR (oLa sh24) <| wE (oCl (t_of 1 (by decide) (by decide))) <| wE (oQd (encR (RRat.mk (ofZ ((2 ^ k : Nat) : Int)) (ofZ 1))) (encR (ofQ ((((2 ^ k : Nat) : Int) : Int) : Rat))) (oBd pl26 ze26 zo26) (by exact rfl)) <| wE (oCl (f_mul (ofQ x) (ofQ ((((2 ^ k : Nat) : Int) : Int) : Rat)) x ((((2 ^ k : Nat) : Int) : Int) : Rat) (qok_up (qok_of hx) (by decide)) (qok_up (qok_of (ql_2s (k := k) (by omega))) (by decide)))) <| wR (oLa sh24) <| wT (oSt sh26) <| wT (oSt sh24) <| wM <| wZ) ?_
  refine pwp_ret ⟨_, (res_a (cs := (bx (encR (ofQ (x * ((((2 ^ k : Nat) : Int) : Int) : Rat)))))) (d := (encR (ofQ (x * ((((2 ^ k : Nat) : Int) : Int) : Rat))))) rfl rfl sh26 rfl rfl (res_a (cs := (bx (encI (ofZ ((2 ^ k : Nat) : Int))))) (d := (encI (ofZ ((2 ^ k : Nat) : Int)))) rfl rfl sh24 rfl rfl (.tmp (d := (.val (.int .i64 (((0 : Nat) : Int))))) rfl .nil))), ?_⟩
  rfl
end Go.Proofs.YtiooafhcpkdhcaaGreatDoor
namespace Go.Fid
def stnP (x y z u v f : Int) : Prop := (-1048576 ≤ x ∧ x ≤ 1048576) ∧ (-1048576 ≤ y ∧ y ≤ 1048576) ∧ (-1048576 ≤ z ∧ z ≤ 1048576) ∧ (-1048576 ≤ u ∧ u ≤ 1048576) ∧ (-1048576 ≤ v ∧ v ≤ 1048576) ∧ (1 ≤ f ∧ f ≤ 1048576)
instance {x y z u v f : Int} : Decidable (stnP x y z u v f) := by unfold stnP; infer_instance
end Go.Fid
set_option linter.unusedVariables false
set_option linter.unusedSimpArgs false
namespace Go.Fid
inductive LOk (n : Nat) : List RInt → List Int → Prop
  | nil : LOk n [] []
  | cons {x : RInt} {z : Int} {l : List RInt} {zs : List Int} (h : IOk x z n) (t : LOk n l zs) : LOk n (x :: l) (z :: zs)
theorem iok_nilN (n : Nat) : IOk ⟨false, []⟩ 0 n := ⟨by decide, Nat.zero_le _⟩
theorem LOk.len {n : Nat} {l : List RInt} {zs : List Int} (h : LOk n l zs) : l.length = zs.length := by
  induction h with
  | nil => rfl
  | cons h t ih => simp [ih]
theorem LOk.get {n : Nat} {l : List RInt} {zs : List Int} (h : LOk n l zs) (i : Nat) : IOk (l.getD i ⟨false, []⟩) (zs.getD i 0) n := by
  induction h generalizing i with
  | nil => exact iok_nilN n
  | cons h t ih =>
    rcases i with _ | i
    · exact h
    · exact ih i
theorem LOk.all {n : Nat} {l : List RInt} {zs : List Int} (h : LOk n l zs) : ∀ z ∈ zs, lenZ z ≤ n := by
  induction h with
  | nil => simp
  | cons h t ih =>
    intro z hz
    rcases List.mem_cons.1 hz with rfl | hz
    · exact h.ln
    · exact ih z hz
theorem LOk.up {m n : Nat} {l : List RInt} {zs : List Int} (h : LOk m l zs) (hm : m ≤ n) : LOk n l zs := by
  induction h with
  | nil => exact .nil
  | cons h t ih => exact .cons (iok_up h hm) ih
theorem LOk.map {n : Nat} {l : List RInt} {zs : List Int} (h : LOk n l zs) : l.map toZ = zs := by
  induction h with
  | nil => rfl
  | cons h t ih => rw [List.map_cons, ih, h.v]
theorem all_nil {l : List RInt} (h : ∀ x ∈ l, x = RInt.mk false []) (i : Nat) : l.getD i (RInt.mk false []) = RInt.mk false [] := by
  rw [List.getD]
  cases hj : l[i]? with
  | none => rfl
  | some q => exact h q (List.mem_of_getElem? hj)
end Go.Fid
set_option linter.unusedVariables false
set_option linter.unusedSimpArgs false
namespace Go.Fid
def nq (a b c d : Int) : Int := (((a * a) + (b * b)) + (c * c)) + (d * d)
def N4 (a b c d : Int) : Rat := ((nq a b c d : Int) : Rat)
def r02 (a b c d : Int) : Int := 2 * ((b * d) + (a * c))
def R02 (a b c d : Int) : Rat := ((r02 a b c d : Int) : Rat)
def r12 (a b c d : Int) : Int := 2 * ((c * d) - (a * b))
def R12 (a b c d : Int) : Rat := ((r12 a b c d : Int) : Rat)
def r22 (a b c d : Int) : Int := (((a * a) - (b * b)) - (c * c)) + (d * d)
def R22 (a b c d : Int) : Rat := ((r22 a b c d : Int) : Rat)
theorem ql_eqz {x y : Rat} {n : Nat} (h : x = y) (hy : QL y n) : QL x n := h ▸ hy
def gcd3 (a b c : Rat) : Int := ((Int.gcd a.num ((Int.gcd b.num c.num : Nat) : Int) : Nat) : Int)
def redK (a b c : Rat) : Rat := Rat.divInt 1 (gcd3 a b c)
def dq0 (a b c d p q r s : Int) : Rat := (R02 a b c d * N4 p q r s) + (R02 p q r s * N4 a b c d)
def dq1 (a b c d p q r s : Int) : Rat := (R12 a b c d * N4 p q r s) + (R12 p q r s * N4 a b c d)
def dq2 (a b c d p q r s : Int) : Rat := (R22 a b c d * N4 p q r s) + (R22 p q r s * N4 a b c d)
def RFr (lx ly lz la lb lc ld rx ry rz ra rb rc rd : Int) (b0 b1 b2 e00 e01 e02 e10 e11 e12 e20 e21 e22 : Rat) : Prop :=
  (((rx - lx) : Int) : Rat) = b0 ∧
  (((ry - ly) : Int) : Rat) = b1 ∧
  (((rz - lz) : Int) : Rat) = b2 ∧
  b0 * redK b0 b1 b2 = e00 ∧
  b1 * redK b0 b1 b2 = e01 ∧
  b2 * redK b0 b1 b2 = e02 ∧
  (((dq1 la lb lc ld ra rb rc rd) * e02) - ((dq2 la lb lc ld ra rb rc rd) * e01)) * redK (((dq1 la lb lc ld ra rb rc rd) * e02) - ((dq2 la lb lc ld ra rb rc rd) * e01)) (((dq2 la lb lc ld ra rb rc rd) * e00) - ((dq0 la lb lc ld ra rb rc rd) * e02)) (((dq0 la lb lc ld ra rb rc rd) * e01) - ((dq1 la lb lc ld ra rb rc rd) * e00)) = e10 ∧
  (((dq2 la lb lc ld ra rb rc rd) * e00) - ((dq0 la lb lc ld ra rb rc rd) * e02)) * redK (((dq1 la lb lc ld ra rb rc rd) * e02) - ((dq2 la lb lc ld ra rb rc rd) * e01)) (((dq2 la lb lc ld ra rb rc rd) * e00) - ((dq0 la lb lc ld ra rb rc rd) * e02)) (((dq0 la lb lc ld ra rb rc rd) * e01) - ((dq1 la lb lc ld ra rb rc rd) * e00)) = e11 ∧
  (((dq0 la lb lc ld ra rb rc rd) * e01) - ((dq1 la lb lc ld ra rb rc rd) * e00)) * redK (((dq1 la lb lc ld ra rb rc rd) * e02) - ((dq2 la lb lc ld ra rb rc rd) * e01)) (((dq2 la lb lc ld ra rb rc rd) * e00) - ((dq0 la lb lc ld ra rb rc rd) * e02)) (((dq0 la lb lc ld ra rb rc rd) * e01) - ((dq1 la lb lc ld ra rb rc rd) * e00)) = e12 ∧
  ((e01 * e12) - (e02 * e11)) * redK ((e01 * e12) - (e02 * e11)) ((e02 * e10) - (e00 * e12)) ((e00 * e11) - (e01 * e10)) = e20 ∧
  ((e02 * e10) - (e00 * e12)) * redK ((e01 * e12) - (e02 * e11)) ((e02 * e10) - (e00 * e12)) ((e00 * e11) - (e01 * e10)) = e21 ∧
  ((e00 * e11) - (e01 * e10)) * redK ((e01 * e12) - (e02 * e11)) ((e02 * e10) - (e00 * e12)) ((e00 * e11) - (e01 * e10)) = e22
instance {lx ly lz la lb lc ld rx ry rz ra rb rc rd : Int} {b0 b1 b2 e00 e01 e02 e10 e11 e12 e20 e21 e22 : Rat} : Decidable (RFr lx ly lz la lb lc ld rx ry rz ra rb rc rd b0 b1 b2 e00 e01 e02 e10 e11 e12 e20 e21 e22) := by unfold RFr; infer_instance
section
variable {lx ly lz la lb lc ld rx ry rz ra rb rc rd : Int} {b0 b1 b2 e00 e01 e02 e10 e11 e12 e20 e21 e22 : Rat}
end
end Go.Fid
