/- Part 24 of a proof: rules, plain facts, and functions walked. -/
import Derived.Test.YtiooafhcpkdhcaaGreatDoorM23
namespace Go.Proofs.YtiooafhcpkdhcaaGreatDoor
open Go.Fid
set_option maxRecDepth 4000
set_option linter.unusedVariables false
set_option linter.unusedSimpArgs false
theorem cb80 : callB Tryz.prog 80 = true := by kernel_rfl
theorem cb81 : callB Tryz.prog 81 = true := by kernel_rfl
theorem cb83 : callB Tryz.prog 83 = true := by kernel_rfl
theorem cb148 : callB Tryz.prog 148 = true := by kernel_rfl
theorem d_plcF (x : Rat) (hx : QL x 100) (k : Nat) (hk : k ≤ 512) : Takes Tryz.prog 148 [(encR (ofQ x)), (.val (.int .i64 (((k : Nat) : Int)))), (.val (.func (.func 149) #[] #[]))] (.tup [(encR (ofQ (Rat.divInt (flZ (x * ((((2 ^ k : Nat) : Int) : Int) : Rat))) ((2 ^ k : Nat) : Int)))), (.val (.int .i64 (0)))]) := by
  have hp0 : ((2 ^ k : Nat) : Int) ≠ 0 := Int.ne_of_gt (two_pos k)
  refine fn_intro Tryz.func148 rfl cb148 rfl ?_
  show PWp _ _ _ _ ⟨[(0, (.d (encR (ofQ x)))), (1, (vin k)), (2, (.d (.val (.func (.func 149) #[] #[]))))], []⟩
  refine pwp_seq <| kx [(3, (.ref 0 0)), (6, (.ref 1 0))] [(0, some (bx (encR (ofQ x)))), (1, some (bx (encR (RRat.mk (RInt.mk false []) (RInt.mk false [])))))] (zN (oBx 0) <| zN (oAl 1 ze26 zo26) <| zM <| zZ) ?_
  refine pwp_seq ?_
  have bn1 : QL (x * ((((2 ^ k : Nat) : Int) : Int) : Rat)) 120 := (ql_mul (k := 120) hx (ql_2s (k := k) (by omega)) (by decide))
  refine kx [(8, (.ref 2 0)), (9, (.ref 3 0)), (10, (vi 0))] [(2, some (bx (encR (ofQ (x * ((((2 ^ k : Nat) : Int) : Int) : Rat)))))), (3, some (bx (encI (ofZ ((2 ^ k : Nat) : Int)))))] (zR (oLa sh26) <| zM <| zE (oCl (d_scaled x hx k (by omega))) <| zM <| zE oEx <| zE oEx <| zE oEx <| zN (oAl 2 ze26 zo26) <| zN (oAl 3 ze24 zo24) <| zT (oSt sh26) <| zT (oSt sh24) <| zM <| zZ) ?_
  refine pwp_seq <| pwp_seq <| kx [(19, (vb false))] [] (zM <| zE (oBk false oNe) <| zZ) ?_
  refine pwp_cond (b := false) (by kernel_rfl) (fun h => by cases h) (fun _ => ?_)
  refine pwp_skip <| pwp_seq ?_
  have bn2 : QL (Rat.divInt (flZ (x * ((((2 ^ k : Nat) : Int) : Int) : Rat))) ((2 ^ k : Nat) : Int)) 121 := (ql_divInt (n := 121) (Nat.le_trans (IOk.ln (iok_flz (k := 121) bn1 (by decide))) (by decide)) (Nat.le_trans (IOk.ln (iok_2s (k := k) (by omega))) (by decide)) (by decide))
  refine kd [(7, (vin 0))] [(1, some (bx (encR (ofQ (Rat.divInt (flZ (x * ((((2 ^ k : Nat) : Int) : Int) : Rat))) ((2 ^ k : Nat) : Int))))))] mo (wM <| wR (oLa sh26) <| wE (oCl (d_floor (x * ((((2 ^ k : Nat) : Int) : Int) : Rat)) (ql_up bn1 (by decide)))) <| wR (oLa sh24) <| wE (oCl (f_reduced (ofZ (flZ (x * ((((2 ^ k : Nat) : Int) : Int) : Rat)))) (ofZ ((2 ^ k : Nat) : Int)) (flZ (x * ((((2 ^ k : Nat) : Int) : Int) : Rat))) ((2 ^ k : Nat) : Int) (iok_up (iok_flz (k := 121) bn1 (by decide)) (by decide)) (iok_up (iok_2s (k := k) (by omega)) (by decide)) (by assumption))) <| wT (oSt sh26) <| wM <| wZ) ?_
  refine pwp_ret ⟨_, (res_a (cs := (bx (encR (ofQ (Rat.divInt (flZ (x * ((((2 ^ k : Nat) : Int) : Int) : Rat))) ((2 ^ k : Nat) : Int)))))) (d := (encR (ofQ (Rat.divInt (flZ (x * ((((2 ^ k : Nat) : Int) : Int) : Rat))) ((2 ^ k : Nat) : Int))))) rfl rfl sh26 rfl rfl (.tmp (d := (.val (.int .i64 (((0 : Nat) : Int))))) rfl .nil)), ?_⟩
  rfl
theorem d_plcC (x : Rat) (hx : QL x 100) (k : Nat) (hk : k ≤ 512) : Takes Tryz.prog 148 [(encR (ofQ x)), (.val (.int .i64 (((k : Nat) : Int)))), (.val (.func (.func 150) #[] #[]))] (.tup [(encR (ofQ (Rat.divInt (-(flZ (-(x * ((((2 ^ k : Nat) : Int) : Int) : Rat))))) ((2 ^ k : Nat) : Int)))), (.val (.int .i64 (0)))]) := by
  have hp0 : ((2 ^ k : Nat) : Int) ≠ 0 := Int.ne_of_gt (two_pos k)
  refine fn_intro Tryz.func148 rfl cb148 rfl ?_
  show PWp _ _ _ _ ⟨[(0, (.d (encR (ofQ x)))), (1, (vin k)), (2, (.d (.val (.func (.func 150) #[] #[]))))], []⟩
  refine pwp_seq <| kx [(3, (.ref 0 0)), (6, (.ref 1 0))] [(0, some (bx (encR (ofQ x)))), (1, some (bx (encR (RRat.mk (RInt.mk false []) (RInt.mk false [])))))] (zN (oBx 0) <| zN (oAl 1 ze26 zo26) <| zM <| zZ) ?_
  refine pwp_seq ?_
  have bn1 : QL (x * ((((2 ^ k : Nat) : Int) : Int) : Rat)) 120 := (ql_mul (k := 120) hx (ql_2s (k := k) (by omega)) (by decide))
  refine kx [(8, (.ref 2 0)), (9, (.ref 3 0)), (10, (vi 0))] [(2, some (bx (encR (ofQ (x * ((((2 ^ k : Nat) : Int) : Int) : Rat)))))), (3, some (bx (encI (ofZ ((2 ^ k : Nat) : Int)))))] (zR (oLa sh26) <| zM <| zE (oCl (d_scaled x hx k (by omega))) <| zM <| zE oEx <| zE oEx <| zE oEx <| zN (oAl 2 ze26 zo26) <| zN (oAl 3 ze24 zo24) <| zT (oSt sh26) <| zT (oSt sh24) <| zM <| zZ) ?_
  refine pwp_seq <| pwp_seq <| kx [(19, (vb false))] [] (zM <| zE (oBk false oNe) <| zZ) ?_
  refine pwp_cond (b := false) (by kernel_rfl) (fun h => by cases h) (fun _ => ?_)
  refine pwp_skip <| pwp_seq ?_
  have bn2 : IOk (ofZ (-(flZ (-(x * ((((2 ^ k : Nat) : Int) : Int) : Rat)))))) (-(flZ (-(x * ((((2 ^ k : Nat) : Int) : Int) : Rat))))) 121 := (iok_neg (iok_flz (k := 121) (ql_neg bn1) (by decide)))
  have bn3 : QL (Rat.divInt (-(flZ (-(x * ((((2 ^ k : Nat) : Int) : Int) : Rat))))) ((2 ^ k : Nat) : Int)) 121 := (ql_divInt (n := 121) (Nat.le_trans (IOk.ln bn2) (by decide)) (Nat.le_trans (IOk.ln (iok_2s (k := k) (by omega))) (by decide)) (by decide))
  refine kd [(7, (vin 0))] [(1, some (bx (encR (ofQ (Rat.divInt (-(flZ (-(x * ((((2 ^ k : Nat) : Int) : Int) : Rat))))) ((2 ^ k : Nat) : Int))))))] mo (wM <| wR (oLa sh26) <| wE (oCl (d_ceil (x * ((((2 ^ k : Nat) : Int) : Int) : Rat)) (ql_up bn1 (by decide)))) <| wR (oLa sh24) <| wE (oCl (f_reduced (ofZ (-(flZ (-(x * ((((2 ^ k : Nat) : Int) : Int) : Rat)))))) (ofZ ((2 ^ k : Nat) : Int)) (-(flZ (-(x * ((((2 ^ k : Nat) : Int) : Int) : Rat))))) ((2 ^ k : Nat) : Int) (iu bn2) (iok_up (iok_2s (k := k) (by omega)) (by decide)) (by assumption))) <| wT (oSt sh26) <| wM <| wZ) ?_
  refine pwp_ret ⟨_, (res_a (cs := (bx (encR (ofQ (Rat.divInt (-(flZ (-(x * ((((2 ^ k : Nat) : Int) : Int) : Rat))))) ((2 ^ k : Nat) : Int)))))) (d := (encR (ofQ (Rat.divInt (-(flZ (-(x * ((((2 ^ k : Nat) : Int) : Int) : Rat))))) ((2 ^ k : Nat) : Int))))) rfl rfl sh26 rfl rfl (.tmp (d := (.val (.int .i64 (((0 : Nat) : Int))))) rfl .nil)), ?_⟩
  rfl
theorem d_down (x : Rat) (hx : QL x 100) (k : Nat) (hk : k ≤ 512) : Takes Tryz.prog 80 [(encR (ofQ x)), (.val (.int .i64 (((k : Nat) : Int))))] (.tup [(encR (ofQ (Rat.divInt (flZ (x * ((((2 ^ k : Nat) : Int) : Int) : Rat))) ((2 ^ k : Nat) : Int)))), (.val (.int .i64 (0)))]) := by
  refine fn_intro Tryz.func80 rfl cb80 rfl ?_
  show PWp _ _ _ _ ⟨[(0, (.d (encR (ofQ x)))), (1, (vin k))], []⟩
  refine pwp_seq <| kx [(2, (.ref 0 0)), (4, (.ref 1 0))] [(0, some (bx (encR (ofQ x)))), (1, some (bx (encR (RRat.mk (RInt.mk false []) (RInt.mk false [])))))] (zN (oBx 0) <| zN (oAl 1 ze26 zo26) <| zM <| zZ) ?_
  refine pwp_seq ?_
  have bn1 : QL (Rat.divInt (flZ (x * ((((2 ^ k : Nat) : Int) : Int) : Rat))) ((2 ^ k : Nat) : Int)) 121 := (ql_divInt (n := 121) (Nat.le_trans (IOk.ln (iok_flz (k := 121) (ql_mul (k := 120) hx (ql_2s (k := k) (by omega)) (by decide)) (by decide))) (by decide)) (Nat.le_trans (IOk.ln (iok_2s (k := k) (by omega))) (by decide)) (by decide))
  refine kx [(5, (vi 0))] [(1, some (bx (encR (ofQ (Rat.divInt (flZ (x * ((((2 ^ k : Nat) : Int) : Int) : Rat))) ((2 ^ k : Nat) : Int))))))] (zR (oLa sh26) <| zM <| zE (oCl (d_plcF x hx k (by omega))) <| zE oEx <| zE oEx <| zT (oSt sh26) <| zM <| zZ) ?_
  refine pwp_ret ⟨_, (res_a (cs := (bx (encR (ofQ (Rat.divInt (flZ (x * ((((2 ^ k : Nat) : Int) : Int) : Rat))) ((2 ^ k : Nat) : Int)))))) (d := (encR (ofQ (Rat.divInt (flZ (x * ((((2 ^ k : Nat) : Int) : Int) : Rat))) ((2 ^ k : Nat) : Int))))) rfl rfl sh26 rfl rfl (.tmp (d := (.val (.int .i64 (0)))) rfl .nil)), ?_⟩
  rfl
theorem d_up (x : Rat) (hx : QL x 100) (k : Nat) (hk : k ≤ 512) : Takes Tryz.prog 81 [(encR (ofQ x)), (.val (.int .i64 (((k : Nat) : Int))))] (.tup [(encR (ofQ (Rat.divInt (-(flZ (-(x * ((((2 ^ k : Nat) : Int) : Int) : Rat))))) ((2 ^ k : Nat) : Int)))), (.val (.int .i64 (0)))]) := by
  refine fn_intro Tryz.func81 rfl cb81 rfl ?_
  show PWp _ _ _ _ ⟨[(0, (.d (encR (ofQ x)))), (1, (vin k))], []⟩
  refine pwp_seq <| kx [(2, (.ref 0 0)), (4, (.ref 1 0))] [(0, some (bx (encR (ofQ x)))), (1, some (bx (encR (RRat.mk (RInt.mk false []) (RInt.mk false [])))))] (zN (oBx 0) <| zN (oAl 1 ze26 zo26) <| zM <| zZ) ?_
  refine pwp_seq ?_
  have bn1 : QL (Rat.divInt (-(flZ (-(x * ((((2 ^ k : Nat) : Int) : Int) : Rat))))) ((2 ^ k : Nat) : Int)) 121 := (ql_divInt (n := 121) (Nat.le_trans (IOk.ln (iok_neg (iok_flz (k := 121) (ql_neg (ql_mul (k := 120) hx (ql_2s (k := k) (by omega)) (by decide))) (by decide)))) (by decide)) (Nat.le_trans (IOk.ln (iok_2s (k := k) (by omega))) (by decide)) (by decide))
  refine kx [(5, (vi 0))] [(1, some (bx (encR (ofQ (Rat.divInt (-(flZ (-(x * ((((2 ^ k : Nat) : Int) : Int) : Rat))))) ((2 ^ k : Nat) : Int))))))] (zR (oLa sh26) <| zM <| zE (oCl (d_plcC x hx k (by omega))) <| zE oEx <| zE oEx <| zT (oSt sh26) <| zM <| zZ) ?_
  refine pwp_ret ⟨_, (res_a (cs := (bx (encR (ofQ (Rat.divInt (-(flZ (-(x * ((((2 ^ k : Nat) : Int) : Int) : Rat))))) ((2 ^ k : Nat) : Int)))))) (d := (encR (ofQ (Rat.divInt (-(flZ (-(x * ((((2 ^ k : Nat) : Int) : Int) : Rat))))) ((2 ^ k : Nat) : Int))))) rfl rfl sh26 rfl rfl (.tmp (d := (.val (.int .i64 (0)))) rfl .nil)), ?_⟩
  rfl
theorem d_froot (x : Rat) (hx : QL x 100) (k : Nat) (hk : k ≤ 512) (hx0 : 0 ≤ x) : Takes Tryz.prog 83 [(encR (ofQ x)), (.val (.int .i64 (((k : Nat) : Int))))] (.tup [(encR (ofQ (Rat.divInt (rootI (flZ (x * (((((2 ^ k : Nat) : Int) : Int) : Rat) * ((((2 ^ k : Nat) : Int) : Int) : Rat))))) ((2 ^ k : Nat) : Int)))), (encR (ofQ (Rat.divInt (upI (x * (((((2 ^ k : Nat) : Int) : Int) : Rat) * ((((2 ^ k : Nat) : Int) : Int) : Rat)))) ((2 ^ k : Nat) : Int)))), (.val (.int .i64 (0)))]) := by
  have hp0 : ((2 ^ k : Nat) : Int) ≠ 0 := Int.ne_of_gt (two_pos k)
  let y3 := (ofZ (rootI (flZ (x * (((((2 ^ k : Nat) : Int) : Int) : Rat) * ((((2 ^ k : Nat) : Int) : Int) : Rat))))))
  let y2 := (bx (encR (ofQ (Rat.divInt (rootI (flZ (x * (((((2 ^ k : Nat) : Int) : Int) : Rat) * ((((2 ^ k : Nat) : Int) : Int) : Rat))))) ((2 ^ k : Nat) : Int)))))
  let y1 := (ofQ (((rootI (flZ (x * (((((2 ^ k : Nat) : Int) : Int) : Rat) * ((((2 ^ k : Nat) : Int) : Int) : Rat))))) * (rootI (flZ (x * (((((2 ^ k : Nat) : Int) : Int) : Rat) * ((((2 ^ k : Nat) : Int) : Int) : Rat))))) : Int) : Rat))
  refine fn_intro Tryz.func83 rfl cb83 rfl ?_
  show PWp _ _ _ _ ⟨[(0, (.d (encR (ofQ x)))), (1, (vin k))], []⟩
  refine pwp_seq <| kx [(2, (.ref 0 0)), (4, (.ref 1 0)), (5, (.ref 2 0))] [(0, some (bx (encR (ofQ x)))), (1, some (bx (encR (RRat.mk (RInt.mk false []) (RInt.mk false []))))), (2, some (bx (encR (RRat.mk (RInt.mk false []) (RInt.mk false [])))))] (zN (oBx 0) <| zN (oAl 1 ze26 zo26) <| zN (oAl 2 ze26 zo26) <| zM <| zZ) ?_
  refine pwp_seq ?_
  have bn1 : QL (x * ((((2 ^ k : Nat) : Int) : Int) : Rat)) 120 := (ql_mul (k := 120) hx (ql_2s (k := k) (by omega)) (by decide))
  refine kx [(6, (vi 0)), (7, (.ref 3 0)), (8, (.ref 4 0))] [(3, some (bx (encR (ofQ (x * ((((2 ^ k : Nat) : Int) : Int) : Rat)))))), (4, some (bx (encI (ofZ ((2 ^ k : Nat) : Int)))))] (zR (oLa sh26) <| zM <| zE (oCl (d_scaled x hx k (by omega))) <| zM <| zE oEx <| zE oEx <| zE oEx <| zN (oAl 3 ze26 zo26) <| zN (oAl 4 ze24 zo24) <| zT (oSt sh26) <| zT (oSt sh24) <| zM <| zZ) ?_
  refine pwp_seq <| pwp_seq <| kx [(25, (vb false))] [] (zM <| zE (oBk false oNe) <| zM <| zR (oLa sh26) <| zE (oCl (f_sign (ofQ x) x (qok_up (qok_of hx) (by decide)))) <| zE (oBk false oLt (by exact decide_eq_false (sgn_nn hx0))) <| zE oPf <| zZ) ?_
  refine pwp_cond (b := false) (by kernel_rfl) (fun h => by cases h) (fun _ => ?_)
  refine pwp_skip <| pwp_seq ?_
  have bn2 : QL (x * (((((2 ^ k : Nat) : Int) : Int) : Rat) * ((((2 ^ k : Nat) : Int) : Int) : Rat))) 140 := (ql_eqz (Eq.symm (Rat.mul_assoc _ _ _)) (ql_mul (k := 140) bn1 (ql_2s (k := k) (by omega)) (by decide)))
  refine kd [] [(3, some (bx (encR (ofQ (x * (((((2 ^ k : Nat) : Int) : Int) : Rat) * ((((2 ^ k : Nat) : Int) : Int) : Rat)))))))] mo (wR (oLa sh26) <| wR (oLa sh24) <| wE (oCl (t_of 1 (by decide) (by decide))) <| wE (oQd (encR (RRat.mk (ofZ ((2 ^ k : Nat) : Int)) (ofZ 1))) (encR (ofQ ((((2 ^ k : Nat) : Int) : Int) : Rat))) (oBd pl26 ze26 zo26) (by exact rfl)) <| wE (oCl (by have h := f_mul (ofQ (x * ((((2 ^ k : Nat) : Int) : Int) : Rat))) (ofQ ((((2 ^ k : Nat) : Int) : Int) : Rat)) (x * ((((2 ^ k : Nat) : Int) : Int) : Rat)) ((((2 ^ k : Nat) : Int) : Int) : Rat) (qok_up (qok_of bn1) (by decide)) (qok_up (qok_of (ql_2s (k := k) (by omega))) (by decide)); rw [(Rat.mul_assoc _ _ _)] at h; exact h)) <| wT (oSt sh26) <| wZ) ?_
  refine pwp_seq ?_
  have bn3 : IOk (ofZ (rootI (flZ (x * (((((2 ^ k : Nat) : Int) : Int) : Rat) * ((((2 ^ k : Nat) : Int) : Int) : Rat)))))) (rootI (flZ (x * (((((2 ^ k : Nat) : Int) : Int) : Rat) * ((((2 ^ k : Nat) : Int) : Int) : Rat))))) 141 := (iok_root (fl_nn (sqp_nn hx0)) (iok_flz (k := 141) bn2 (by decide)))
  refine kx [(9, (.ref 5 0))] [(5, some (bx (encI y3)))] (zR (oLa sh26) <| zE (oCl (d_floor (x * (((((2 ^ k : Nat) : Int) : Int) : Rat) * ((((2 ^ k : Nat) : Int) : Int) : Rat))) (ql_up bn2 (by decide)))) <| zE (oCl (d_root (flZ (x * (((((2 ^ k : Nat) : Int) : Int) : Rat) * ((((2 ^ k : Nat) : Int) : Int) : Rat)))) (iok_up (iok_flz (k := 141) bn2 (by decide)) (by decide)) (fl_nn (sqp_nn hx0)))) <| zM <| zE oEx <| zE oEx <| zN (oAl 5 ze24 zo24) <| zT (oSt sh24) <| zM <| zZ) ?_
  refine pwp_seq <| kx [(11, (.ref 6 0))] [(6, some (bx (encI y3)))] (zR (oLa sh24) <| zN (oAl 6 ze24 zo24) <| zT (oSt sh24) <| zZ) ?_
  refine pwp_seq <| pwp_seq <| kd [(47, (vb (decide ((cmpQ (((rootI (flZ (x * (((((2 ^ k : Nat) : Int) : Int) : Rat) * ((((2 ^ k : Nat) : Int) : Int) : Rat))))) * (rootI (flZ (x * (((((2 ^ k : Nat) : Int) : Int) : Rat) * ((((2 ^ k : Nat) : Int) : Int) : Rat))))) : Int) : Rat) (x * (((((2 ^ k : Nat) : Int) : Int) : Rat) * ((((2 ^ k : Nat) : Int) : Int) : Rat)))) < ((0 : Nat) : Int)))))] [] mo (wR (oLa sh24) <| wR (oLa sh24) <| wE (oCl (s_mul bn3 bn3 (by decide) (by decide))) <| wE (oCl (t_of 1 (by decide) (by decide))) <| wE (oQd (encR (RRat.mk (ofZ ((rootI (flZ (x * (((((2 ^ k : Nat) : Int) : Int) : Rat) * ((((2 ^ k : Nat) : Int) : Int) : Rat))))) * (rootI (flZ (x * (((((2 ^ k : Nat) : Int) : Int) : Rat) * ((((2 ^ k : Nat) : Int) : Int) : Rat))))))) (ofZ 1))) (encR y1) (oBd pl26 ze26 zo26) (by exact rfl)) <| wR (oLa sh26) <| wE (oCl (f_compare y1 (ofQ (x * (((((2 ^ k : Nat) : Int) : Int) : Rat) * ((((2 ^ k : Nat) : Int) : Int) : Rat)))) (((rootI (flZ (x * (((((2 ^ k : Nat) : Int) : Int) : Rat) * ((((2 ^ k : Nat) : Int) : Int) : Rat))))) * (rootI (flZ (x * (((((2 ^ k : Nat) : Int) : Int) : Rat) * ((((2 ^ k : Nat) : Int) : Int) : Rat))))) : Int) : Rat) (x * (((((2 ^ k : Nat) : Int) : Int) : Rat) * ((((2 ^ k : Nat) : Int) : Int) : Rat))) (qok_up (qok_of (ql_int (z := ((rootI (flZ (x * (((((2 ^ k : Nat) : Int) : Int) : Rat) * ((((2 ^ k : Nat) : Int) : Int) : Rat))))) * (rootI (flZ (x * (((((2 ^ k : Nat) : Int) : Int) : Rat) * ((((2 ^ k : Nat) : Int) : Int) : Rat))))))) (n := 282) (IOk.ln (iok_mul (k := 282) bn3 bn3 (by decide))) (by decide))) (by decide)) (qok_up (qok_of bn2) (by decide)))) <| wE oLt <| wZ) ?_
  refine pwp_cond rfl (fun h1 => ?_) (fun h1 => ?_)
  · replace h1 := of_decide_eq_true h1
    have hup := upI_t h1
    have bn4 : IOk (ofZ ((rootI (flZ (x * (((((2 ^ k : Nat) : Int) : Int) : Rat) * ((((2 ^ k : Nat) : Int) : Int) : Rat))))) + 1)) ((rootI (flZ (x * (((((2 ^ k : Nat) : Int) : Int) : Rat) * ((((2 ^ k : Nat) : Int) : Int) : Rat))))) + 1) 142 := (iok_add (k := 142) bn3 (iok_small (z := 1) (by decide)) (by decide))
    refine kd [] [(6, some (bx (encI (ofZ ((rootI (flZ (x * (((((2 ^ k : Nat) : Int) : Int) : Rat) * ((((2 ^ k : Nat) : Int) : Int) : Rat))))) + 1)))))] mo (wR (oLa sh24) <| wE (oCl (t_of 1 (by decide) (by decide))) <| wE (oCl (s_add bn3 (iok_small (z := 1) (by decide)) (by decide) (by decide))) <| wT (oSt sh24) <| wZ) ?_
    refine pwp_seq ?_
    have bn5 : QL (Rat.divInt (rootI (flZ (x * (((((2 ^ k : Nat) : Int) : Int) : Rat) * ((((2 ^ k : Nat) : Int) : Int) : Rat))))) ((2 ^ k : Nat) : Int)) 141 := (ql_divInt (n := 141) (Nat.le_trans (IOk.ln bn3) (by decide)) (Nat.le_trans (IOk.ln (iok_2s (k := k) (by omega))) (by decide)) (by decide))
    have bn6 : QL (Rat.divInt ((rootI (flZ (x * (((((2 ^ k : Nat) : Int) : Int) : Rat) * ((((2 ^ k : Nat) : Int) : Int) : Rat))))) + 1) ((2 ^ k : Nat) : Int)) 142 := (ql_divInt (n := 142) (Nat.le_trans (IOk.ln bn4) (by decide)) (Nat.le_trans (IOk.ln (iok_2s (k := k) (by omega))) (by decide)) (by decide))
    refine kd [(6, (vin 0))] [(1, some y2), (2, some (bx (encR (ofQ (Rat.divInt ((rootI (flZ (x * (((((2 ^ k : Nat) : Int) : Int) : Rat) * ((((2 ^ k : Nat) : Int) : Int) : Rat))))) + 1) ((2 ^ k : Nat) : Int))))))] mo (wR (oLa sh24) <| wR (oLa sh24) <| wE (oCl (f_reduced y3 (ofZ ((2 ^ k : Nat) : Int)) (rootI (flZ (x * (((((2 ^ k : Nat) : Int) : Int) : Rat) * ((((2 ^ k : Nat) : Int) : Int) : Rat))))) ((2 ^ k : Nat) : Int) (iu bn3) (iok_up (iok_2s (k := k) (by omega)) (by decide)) (by assumption))) <| wR (oLa sh24) <| wR (oLa sh24) <| wE (oCl (f_reduced (ofZ ((rootI (flZ (x * (((((2 ^ k : Nat) : Int) : Int) : Rat) * ((((2 ^ k : Nat) : Int) : Int) : Rat))))) + 1)) (ofZ ((2 ^ k : Nat) : Int)) ((rootI (flZ (x * (((((2 ^ k : Nat) : Int) : Int) : Rat) * ((((2 ^ k : Nat) : Int) : Int) : Rat))))) + 1) ((2 ^ k : Nat) : Int) (iu bn4) (iok_up (iok_2s (k := k) (by omega)) (by decide)) (by assumption))) <| wT (oSt sh26) <| wT (oSt sh26) <| wM <| wZ) ?_
    refine pwp_ret ⟨_, (res_a (cs := (bx (encR (ofQ (Rat.divInt (rootI (flZ (x * (((((2 ^ k : Nat) : Int) : Int) : Rat) * ((((2 ^ k : Nat) : Int) : Int) : Rat))))) ((2 ^ k : Nat) : Int)))))) (d := (encR (ofQ (Rat.divInt (rootI (flZ (x * (((((2 ^ k : Nat) : Int) : Int) : Rat) * ((((2 ^ k : Nat) : Int) : Int) : Rat))))) ((2 ^ k : Nat) : Int))))) rfl rfl sh26 rfl rfl (res_a (cs := (bx (encR (ofQ (Rat.divInt ((rootI (flZ (x * (((((2 ^ k : Nat) : Int) : Int) : Rat) * ((((2 ^ k : Nat) : Int) : Int) : Rat))))) + 1) ((2 ^ k : Nat) : Int)))))) (d := (encR (ofQ (Rat.divInt ((rootI (flZ (x * (((((2 ^ k : Nat) : Int) : Int) : Rat) * ((((2 ^ k : Nat) : Int) : Int) : Rat))))) + 1) ((2 ^ k : Nat) : Int))))) rfl rfl sh26 rfl rfl (.tmp (d := (.val (.int .i64 (((0 : Nat) : Int))))) rfl .nil))), ?_⟩
    rw [hup]; rfl
  · replace h1 := of_decide_eq_false h1
    have hup := upI_f h1
    refine pwp_skip <| pwp_seq ?_
    have bn7 : QL (Rat.divInt (rootI (flZ (x * (((((2 ^ k : Nat) : Int) : Int) : Rat) * ((((2 ^ k : Nat) : Int) : Int) : Rat))))) ((2 ^ k : Nat) : Int)) 141 := (ql_divInt (n := 141) (Nat.le_trans (IOk.ln bn3) (by decide)) (Nat.le_trans (IOk.ln (iok_2s (k := k) (by omega))) (by decide)) (by decide))
    refine kd [(6, (vin 0))] [(1, some y2), (2, some y2)] mo (wR (oLa sh24) <| wR (oLa sh24) <| wE (oCl (f_reduced y3 (ofZ ((2 ^ k : Nat) : Int)) (rootI (flZ (x * (((((2 ^ k : Nat) : Int) : Int) : Rat) * ((((2 ^ k : Nat) : Int) : Int) : Rat))))) ((2 ^ k : Nat) : Int) (iu bn3) (iok_up (iok_2s (k := k) (by omega)) (by decide)) (by assumption))) <| wR (oLa sh24) <| wR (oLa sh24) <| wE (oCl (f_reduced y3 (ofZ ((2 ^ k : Nat) : Int)) (rootI (flZ (x * (((((2 ^ k : Nat) : Int) : Int) : Rat) * ((((2 ^ k : Nat) : Int) : Int) : Rat))))) ((2 ^ k : Nat) : Int) (iu bn3) (iok_up (iok_2s (k := k) (by omega)) (by decide)) (by assumption))) <| wT (oSt sh26) <| wT (oSt sh26) <| wM <| wZ) ?_
    refine pwp_ret ⟨_, (res_a (cs := (bx (encR (ofQ (Rat.divInt (rootI (flZ (x * (((((2 ^ k : Nat) : Int) : Int) : Rat) * ((((2 ^ k : Nat) : Int) : Int) : Rat))))) ((2 ^ k : Nat) : Int)))))) (d := (encR (ofQ (Rat.divInt (rootI (flZ (x * (((((2 ^ k : Nat) : Int) : Int) : Rat) * ((((2 ^ k : Nat) : Int) : Int) : Rat))))) ((2 ^ k : Nat) : Int))))) rfl rfl sh26 rfl rfl (res_a (cs := (bx (encR (ofQ (Rat.divInt (rootI (flZ (x * (((((2 ^ k : Nat) : Int) : Int) : Rat) * ((((2 ^ k : Nat) : Int) : Int) : Rat))))) ((2 ^ k : Nat) : Int)))))) (d := (encR (ofQ (Rat.divInt (rootI (flZ (x * (((((2 ^ k : Nat) : Int) : Int) : Rat) * ((((2 ^ k : Nat) : Int) : Int) : Rat))))) ((2 ^ k : Nat) : Int))))) rfl rfl sh26 rfl rfl (.tmp (d := (.val (.int .i64 (((0 : Nat) : Int))))) rfl .nil))), ?_⟩
    rw [hup]; rfl
end Go.Proofs.YtiooafhcpkdhcaaGreatDoor
namespace Go.Proofs.YtiooafhcpkdhcaaGreatDoor
open Go.Fid
set_option maxRecDepth 4000
set_option linter.unusedVariables false
set_option linter.unusedSimpArgs false
theorem cb85 : callB Tryz.prog 85 = true := by kernel_rfl
theorem cb86 : callB Tryz.prog 86 = true := by kernel_rfl
theorem cb87 : callB Tryz.prog 87 = true := by kernel_rfl
theorem cb159 : callB Tryz.prog 159 = true := by kernel_rfl
theorem cb160 : callB Tryz.prog 160 = true := by kernel_rfl
theorem cb162 : callB Tryz.prog 162 = true := by kernel_rfl
theorem dr_plc (k : Nat) (hk : k ≤ 512) : Takes Tryz.prog 159 [(.val (.int .i64 (((k : Nat) : Int))))] (.val (.bool (true))) := by
  refine fn_intro Tryz.func159 rfl cb159 rfl ?_
  show PWp _ _ _ _ ⟨[(0, (vin k))], []⟩
  refine pwp_seq <| kx [] [] (zM <| zZ) ?_
  refine pwp_seq <| kx [(2, (vb true))] [] (zM <| zE (oBk true oGe (by exact decide_eq_true (show 0 ≤ ((k : Nat) : Int) by omega))) <| zM <| zM <| zE (oBk true oLe (by exact decide_eq_true (show ((k : Nat) : Int) ≤ 512 by omega))) <| zE oPt <| zM <| zZ) ?_
  refine pwp_ret ⟨_, (.tmp (d := (.val (.bool (true)))) rfl .nil), ?_⟩
  rfl
theorem dr_pow (k : Nat) (hk : k ≤ 512) : Takes Tryz.prog 162 [(.val (.int .i64 (((k : Nat) : Int))))] (encR (ofQ ((((2 ^ k : Nat) : Int) : Int) : Rat))) := by
  refine fn_intro Tryz.func162 rfl cb162 rfl ?_
  show PWp _ _ _ _ ⟨[(0, (vin k))], []⟩
  refine pwp_seq <| kx [(2, (.ref 0 0))] [(0, some (bx (encR (RRat.mk (RInt.mk false []) (RInt.mk false [])))))] (zN (oAl 0 ze26 zo26) <| zZ) ?_
  refine pwp_seq <| kx [(3, (.ref 1 0))] [(1, some (bx (encI (ofZ ((2 ^ k : Nat) : Int)))))] (zE (oCl (g_whole1 2 (by decide) (by decide))) <| zM <| zE (oCl (d_rpow k (by omega))) <| zM <| zE oEx <| zE oEx <| zN (oAl 1 ze24 zo24) <| zT (oSt sh24) <| zM <| zZ) ?_
  refine pwp_seq <| kd [] [(0, some (bx (encR (ofQ ((((2 ^ k : Nat) : Int) : Int) : Rat)))))] mo (wR (oLa sh24) <| wE (oCl (g_whole1 1 (by decide) (by decide))) <| wE (oQd (encR (RRat.mk (ofZ ((2 ^ k : Nat) : Int)) (ofZ 1))) (encR (ofQ ((((2 ^ k : Nat) : Int) : Int) : Rat))) (oBd pl26 ze26 zo26) (by exact rfl)) <| wT (oSt sh26) <| wZ) ?_
  refine pwp_ret ⟨_, (res_a (cs := (bx (encR (ofQ ((((2 ^ k : Nat) : Int) : Int) : Rat))))) (d := (encR (ofQ ((((2 ^ k : Nat) : Int) : Int) : Rat)))) rfl rfl sh26 rfl rfl .nil), ?_⟩
  rfl
theorem dr_part (z : Int) (hz : IOk (ofZ z) z 300) (k : Nat) (hk : k ≤ 512) : Takes Tryz.prog 160 [(encI (ofZ z)), (.val (.int .i64 (((k : Nat) : Int))))] (encR (ofQ (Rat.divInt z ((2 ^ k : Nat) : Int)))) := by
  have hp0 : ((2 ^ k : Nat) : Int) ≠ 0 := Int.ne_of_gt (two_pos k)
  refine fn_intro Tryz.func160 rfl cb160 rfl ?_
  show PWp _ _ _ _ ⟨[(0, (.d (encI (ofZ z)))), (1, (vin k))], []⟩
  refine pwp_seq <| kx [(2, (.ref 0 0)), (4, (.ref 1 0))] [(0, some (bx (encI (ofZ z)))), (1, some (bx (encR (RRat.mk (RInt.mk false []) (RInt.mk false [])))))] (zN (oBx 0) <| zN (oAl 1 ze26 zo26) <| zZ) ?_
  refine pwp_seq ?_
  have bn1 : QL (Rat.divInt z ((2 ^ k : Nat) : Int)) 300 := (ql_divInt (n := 300) (Nat.le_trans (IOk.ln hz) (by decide)) (Nat.le_trans (IOk.ln (iok_2s (k := k) (by omega))) (by decide)) (by decide))
  refine kd [] [(1, some (bx (encR (ofQ (Rat.divInt z ((2 ^ k : Nat) : Int))))))] mo (wR (oLa sh24) <| wM <| wE (oCl (dr_pow k (by omega))) <| wE (oQd (encI ((ofQ ((((2 ^ k : Nat) : Int) : Int) : Rat)).num)) (encI (ofZ ((2 ^ k : Nat) : Int))) (oFv ft26_0 sh24) (by exact rfl)) <| wE (oCl (g_reduced (ofZ z) (ofZ ((2 ^ k : Nat) : Int)) z ((2 ^ k : Nat) : Int) (iu hz) (iok_up (iok_2s (k := k) (by omega)) (by decide)) (by assumption))) <| wT (oSt sh26) <| wZ) ?_
  refine pwp_ret ⟨_, (res_a (cs := (bx (encR (ofQ (Rat.divInt z ((2 ^ k : Nat) : Int)))))) (d := (encR (ofQ (Rat.divInt z ((2 ^ k : Nat) : Int))))) rfl rfl sh26 rfl rfl .nil), ?_⟩
  rfl
theorem dr_down (x : Rat) (hx : QL x 100) (k : Nat) (hk : k ≤ 512) : Takes Tryz.prog 85 [(encR (ofQ x)), (.val (.int .i64 (((k : Nat) : Int))))] (.tup [(encR (ofQ (Rat.divInt (flZ (x * ((((2 ^ k : Nat) : Int) : Int) : Rat))) ((2 ^ k : Nat) : Int)))), (.val (.int .i64 (0)))]) := by
  refine fn_intro Tryz.func85 rfl cb85 rfl ?_
  show PWp _ _ _ _ ⟨[(0, (.d (encR (ofQ x)))), (1, (vin k))], []⟩
  refine pwp_seq <| kx [(2, (.ref 0 0)), (4, (.ref 1 0))] [(0, some (bx (encR (ofQ x)))), (1, some (bx (encR (RRat.mk (RInt.mk false []) (RInt.mk false [])))))] (zN (oBx 0) <| zN (oAl 1 ze26 zo26) <| zM <| zZ) ?_
  refine pwp_seq <| pwp_seq <| kx [(8, (vb false))] [] (zM <| zE (oCl (dr_plc k (by omega))) <| zE oNt <| zZ) ?_
  refine pwp_cond (b := false) (by kernel_rfl) (fun h => by cases h) (fun _ => ?_)
  refine pwp_skip <| pwp_seq ?_
  have bn1 : QL (x * ((((2 ^ k : Nat) : Int) : Int) : Rat)) 120 := (ql_mul (k := 120) hx (ql_2s (k := k) (by omega)) (by decide))
  have bn2 : QL (Rat.divInt (flZ (x * ((((2 ^ k : Nat) : Int) : Int) : Rat))) ((2 ^ k : Nat) : Int)) 121 := (ql_divInt (n := 121) (Nat.le_trans (IOk.ln (iok_flz (k := 121) bn1 (by decide))) (by decide)) (Nat.le_trans (IOk.ln (iok_2s (k := k) (by omega))) (by decide)) (by decide))
  refine kd [(5, (vin 0))] [(1, some (bx (encR (ofQ (Rat.divInt (flZ (x * ((((2 ^ k : Nat) : Int) : Int) : Rat))) ((2 ^ k : Nat) : Int))))))] mo (wR (oLa sh26) <| wM <| wE (oCl (dr_pow k (by omega))) <| wE (oCl (g_mul (ofQ x) (ofQ ((((2 ^ k : Nat) : Int) : Int) : Rat)) x ((((2 ^ k : Nat) : Int) : Int) : Rat) (qok_up (qok_of hx) (by decide)) (qok_up (qok_of (ql_2s (k := k) (by omega))) (by decide)))) <| wE (oCl (dr_floor (x * ((((2 ^ k : Nat) : Int) : Int) : Rat)) (ql_up bn1 (by decide)))) <| wM <| wE (oCl (dr_part (flZ (x * ((((2 ^ k : Nat) : Int) : Int) : Rat))) (iok_up (iok_flz (k := 121) bn1 (by decide)) (by decide)) k (by omega))) <| wT (oSt sh26) <| wM <| wZ) ?_
  refine pwp_ret ⟨_, (res_a (cs := (bx (encR (ofQ (Rat.divInt (flZ (x * ((((2 ^ k : Nat) : Int) : Int) : Rat))) ((2 ^ k : Nat) : Int)))))) (d := (encR (ofQ (Rat.divInt (flZ (x * ((((2 ^ k : Nat) : Int) : Int) : Rat))) ((2 ^ k : Nat) : Int))))) rfl rfl sh26 rfl rfl (.tmp (d := (.val (.int .i64 (((0 : Nat) : Int))))) rfl .nil)), ?_⟩
  rfl
theorem dr_up (x : Rat) (hx : QL x 100) (k : Nat) (hk : k ≤ 512) : Takes Tryz.prog 86 [(encR (ofQ x)), (.val (.int .i64 (((k : Nat) : Int))))] (.tup [(encR (ofQ (Rat.divInt (-(flZ (-(x * ((((2 ^ k : Nat) : Int) : Int) : Rat))))) ((2 ^ k : Nat) : Int)))), (.val (.int .i64 (0)))]) := by
  refine fn_intro Tryz.func86 rfl cb86 rfl ?_
  show PWp _ _ _ _ ⟨[(0, (.d (encR (ofQ x)))), (1, (vin k))], []⟩
  refine pwp_seq <| kx [(2, (.ref 0 0)), (4, (.ref 1 0))] [(0, some (bx (encR (ofQ x)))), (1, some (bx (encR (RRat.mk (RInt.mk false []) (RInt.mk false [])))))] (zN (oBx 0) <| zN (oAl 1 ze26 zo26) <| zM <| zZ) ?_
  refine pwp_seq <| pwp_seq <| kx [(8, (vb false))] [] (zM <| zE (oCl (dr_plc k (by omega))) <| zE oNt <| zZ) ?_
  refine pwp_cond (b := false) (by kernel_rfl) (fun h => by cases h) (fun _ => ?_)
  refine pwp_skip <| pwp_seq ?_
  have bn1 : QL (x * ((((2 ^ k : Nat) : Int) : Int) : Rat)) 120 := (ql_mul (k := 120) hx (ql_2s (k := k) (by omega)) (by decide))
  have bn2 : IOk (ofZ (-(flZ (-(x * ((((2 ^ k : Nat) : Int) : Int) : Rat)))))) (-(flZ (-(x * ((((2 ^ k : Nat) : Int) : Int) : Rat))))) 121 := (iok_neg (iok_flz (k := 121) (ql_neg bn1) (by decide)))
  have bn3 : QL (Rat.divInt (-(flZ (-(x * ((((2 ^ k : Nat) : Int) : Int) : Rat))))) ((2 ^ k : Nat) : Int)) 121 := (ql_divInt (n := 121) (Nat.le_trans (IOk.ln bn2) (by decide)) (Nat.le_trans (IOk.ln (iok_2s (k := k) (by omega))) (by decide)) (by decide))
  refine kd [(5, (vin 0))] [(1, some (bx (encR (ofQ (Rat.divInt (-(flZ (-(x * ((((2 ^ k : Nat) : Int) : Int) : Rat))))) ((2 ^ k : Nat) : Int))))))] mo (wR (oLa sh26) <| wM <| wE (oCl (dr_pow k (by omega))) <| wE (oCl (g_mul (ofQ x) (ofQ ((((2 ^ k : Nat) : Int) : Int) : Rat)) x ((((2 ^ k : Nat) : Int) : Int) : Rat) (qok_up (qok_of hx) (by decide)) (qok_up (qok_of (ql_2s (k := k) (by omega))) (by decide)))) <| wE (oCl (dr_ceil (x * ((((2 ^ k : Nat) : Int) : Int) : Rat)) (ql_up bn1 (by decide)))) <| wM <| wE (oCl (dr_part (-(flZ (-(x * ((((2 ^ k : Nat) : Int) : Int) : Rat))))) (iu bn2) k (by omega))) <| wT (oSt sh26) <| wM <| wZ) ?_
  refine pwp_ret ⟨_, (res_a (cs := (bx (encR (ofQ (Rat.divInt (-(flZ (-(x * ((((2 ^ k : Nat) : Int) : Int) : Rat))))) ((2 ^ k : Nat) : Int)))))) (d := (encR (ofQ (Rat.divInt (-(flZ (-(x * ((((2 ^ k : Nat) : Int) : Int) : Rat))))) ((2 ^ k : Nat) : Int))))) rfl rfl sh26 rfl rfl (.tmp (d := (.val (.int .i64 (((0 : Nat) : Int))))) rfl .nil)), ?_⟩
  rfl
theorem dr_root (x : Rat) (hx : QL x 100) (k : Nat) (hk : k ≤ 512) (hx0 : 0 ≤ x) : Takes Tryz.prog 87 [(encR (ofQ x)), (.val (.int .i64 (((k : Nat) : Int))))] (.tup [(encR (ofQ (Rat.divInt (rootI (flZ (x * (((((2 ^ k : Nat) : Int) : Int) : Rat) * ((((2 ^ k : Nat) : Int) : Int) : Rat))))) ((2 ^ k : Nat) : Int)))), (encR (ofQ (Rat.divInt (upI (x * (((((2 ^ k : Nat) : Int) : Int) : Rat) * ((((2 ^ k : Nat) : Int) : Int) : Rat)))) ((2 ^ k : Nat) : Int)))), (.val (.int .i64 (0)))]) := by
  let y2 := (ofQ (Rat.divInt (rootI (flZ (x * (((((2 ^ k : Nat) : Int) : Int) : Rat) * ((((2 ^ k : Nat) : Int) : Int) : Rat))))) ((2 ^ k : Nat) : Int)))
  let y1 := (bx (encR y2))
  refine fn_intro Tryz.func87 rfl cb87 rfl ?_
  show PWp _ _ _ _ ⟨[(0, (.d (encR (ofQ x)))), (1, (vin k))], []⟩
  refine pwp_seq <| kx [(2, (.ref 0 0)), (4, (.ref 1 0)), (5, (.ref 2 0))] [(0, some (bx (encR (ofQ x)))), (1, some (bx (encR (RRat.mk (RInt.mk false []) (RInt.mk false []))))), (2, some (bx (encR (RRat.mk (RInt.mk false []) (RInt.mk false [])))))] (zN (oBx 0) <| zN (oAl 1 ze26 zo26) <| zN (oAl 2 ze26 zo26) <| zM <| zZ) ?_
  refine pwp_seq <| pwp_seq <| kx [(18, (vb false))] [] (zM <| zE (oCl (dr_plc k (by omega))) <| zE oNt <| zM <| zR (oLa sh26) <| zE (oCl (g_sign (ofQ x) x (qok_up (qok_of hx) (by decide)))) <| zE (oBk false oLt (by exact decide_eq_false (sgn_nn hx0))) <| zE oPf <| zZ) ?_
  refine pwp_cond (b := false) (by kernel_rfl) (fun h => by cases h) (fun _ => ?_)
  refine pwp_skip <| pwp_seq ?_
  have bn1 : QL (((((2 ^ k : Nat) : Int) : Int) : Rat) * ((((2 ^ k : Nat) : Int) : Int) : Rat)) 40 := (ql_mul (k := 40) (ql_2s (k := k) (by omega)) (ql_2s (k := k) (by omega)) (by decide))
  refine kd [(7, (.ref 3 0))] [(3, some (bx (encR (ofQ (x * (((((2 ^ k : Nat) : Int) : Int) : Rat) * ((((2 ^ k : Nat) : Int) : Int) : Rat)))))))] mo (wR (oLa sh26) <| wM <| wE (oCl (dr_pow k (by omega))) <| wM <| wE (oCl (dr_pow k (by omega))) <| wE (oCl (g_mul (ofQ ((((2 ^ k : Nat) : Int) : Int) : Rat)) (ofQ ((((2 ^ k : Nat) : Int) : Int) : Rat)) ((((2 ^ k : Nat) : Int) : Int) : Rat) ((((2 ^ k : Nat) : Int) : Int) : Rat) (qok_up (qok_of (ql_2s (k := k) (by omega))) (by decide)) (qok_up (qok_of (ql_2s (k := k) (by omega))) (by decide)))) <| wE (oCl (g_mul (ofQ x) (ofQ (((((2 ^ k : Nat) : Int) : Int) : Rat) * ((((2 ^ k : Nat) : Int) : Int) : Rat))) x (((((2 ^ k : Nat) : Int) : Int) : Rat) * ((((2 ^ k : Nat) : Int) : Int) : Rat)) (qok_up (qok_of hx) (by decide)) (qok_up (qok_of bn1) (by decide)))) <| wN (oAl 3 ze26 zo26) <| wT (oSt sh26) <| wZ) ?_
  refine pwp_seq ?_
  have bn2 : IOk (ofZ (flZ (x * (((((2 ^ k : Nat) : Int) : Int) : Rat) * ((((2 ^ k : Nat) : Int) : Int) : Rat))))) (flZ (x * (((((2 ^ k : Nat) : Int) : Int) : Rat) * ((((2 ^ k : Nat) : Int) : Int) : Rat)))) 141 := (iok_flz (k := 141) (ql_mul (k := 140) hx bn1 (by decide)) (by decide))
  refine kx [(8, (.ref 4 0))] [(4, some (bx (encI (ofZ (rootI (flZ (x * (((((2 ^ k : Nat) : Int) : Int) : Rat) * ((((2 ^ k : Nat) : Int) : Int) : Rat)))))))))] (zR (oLa sh26) <| zE (oCl (dr_floor (x * (((((2 ^ k : Nat) : Int) : Int) : Rat) * ((((2 ^ k : Nat) : Int) : Int) : Rat))) (ql_up (ql_mul (k := 140) hx bn1 (by decide)) (by decide)))) <| zE (oCl (d_rroot (flZ (x * (((((2 ^ k : Nat) : Int) : Int) : Rat) * ((((2 ^ k : Nat) : Int) : Int) : Rat)))) (iu bn2) (fl_nn (sqp_nn hx0)))) <| zM <| zE oEx <| zE oEx <| zN (oAl 4 ze24 zo24) <| zT (oSt sh24) <| zM <| zZ) ?_
  refine pwp_seq ?_
  have bn3 : QL (Rat.divInt (rootI (flZ (x * (((((2 ^ k : Nat) : Int) : Int) : Rat) * ((((2 ^ k : Nat) : Int) : Int) : Rat))))) ((2 ^ k : Nat) : Int)) 141 := (ql_divInt (n := 141) (Nat.le_trans (IOk.ln (iok_root (fl_nn (sqp_nn hx0)) bn2)) (by decide)) (Nat.le_trans (IOk.ln (iok_2s (k := k) (by omega))) (by decide)) (by decide))
  refine kx [(10, (.ref 5 0))] [(5, some y1)] (zR (oLa sh24) <| zM <| zE (oCl (dr_part (rootI (flZ (x * (((((2 ^ k : Nat) : Int) : Int) : Rat) * ((((2 ^ k : Nat) : Int) : Int) : Rat))))) (iok_up (iok_root (fl_nn (sqp_nn hx0)) bn2) (by decide)) k (by omega))) <| zN (oAl 5 ze26 zo26) <| zT (oSt sh26) <| zZ) ?_
  refine pwp_seq <| pwp_seq <| kd [(42, (vb ((cmpQ ((Rat.divInt (rootI (flZ (x * (((((2 ^ k : Nat) : Int) : Int) : Rat) * ((((2 ^ k : Nat) : Int) : Int) : Rat))))) ((2 ^ k : Nat) : Int)) * (Rat.divInt (rootI (flZ (x * (((((2 ^ k : Nat) : Int) : Int) : Rat) * ((((2 ^ k : Nat) : Int) : Int) : Rat))))) ((2 ^ k : Nat) : Int))) x) == ((0 : Nat) : Int))))] [] mo (wR (oLa sh26) <| wR (oLa sh26) <| wE (oCl (g_mul y2 y2 (Rat.divInt (rootI (flZ (x * (((((2 ^ k : Nat) : Int) : Int) : Rat) * ((((2 ^ k : Nat) : Int) : Int) : Rat))))) ((2 ^ k : Nat) : Int)) (Rat.divInt (rootI (flZ (x * (((((2 ^ k : Nat) : Int) : Int) : Rat) * ((((2 ^ k : Nat) : Int) : Int) : Rat))))) ((2 ^ k : Nat) : Int)) (qok_up (qok_of bn3) (by decide)) (qok_up (qok_of bn3) (by decide)))) <| wR (oLa sh26) <| wE (oCl (g_compare (ofQ ((Rat.divInt (rootI (flZ (x * (((((2 ^ k : Nat) : Int) : Int) : Rat) * ((((2 ^ k : Nat) : Int) : Int) : Rat))))) ((2 ^ k : Nat) : Int)) * (Rat.divInt (rootI (flZ (x * (((((2 ^ k : Nat) : Int) : Int) : Rat) * ((((2 ^ k : Nat) : Int) : Int) : Rat))))) ((2 ^ k : Nat) : Int)))) (ofQ x) ((Rat.divInt (rootI (flZ (x * (((((2 ^ k : Nat) : Int) : Int) : Rat) * ((((2 ^ k : Nat) : Int) : Int) : Rat))))) ((2 ^ k : Nat) : Int)) * (Rat.divInt (rootI (flZ (x * (((((2 ^ k : Nat) : Int) : Int) : Rat) * ((((2 ^ k : Nat) : Int) : Int) : Rat))))) ((2 ^ k : Nat) : Int))) x (qok_up (qok_of (ql_mul (k := 282) bn3 bn3 (by decide))) (by decide)) (qok_up (qok_of hx) (by decide)))) <| wE oEq <| wZ) ?_
  refine pwp_cond rfl (fun h1 => ?_) (fun h1 => ?_)
  · replace h1 := eq_of_beq h1
    have hup := upI_q h1
    refine pwp_seq <| kd [(6, (vin 0))] [(1, some y1), (2, some y1)] mo (wR (oLa sh26) <| wR (oLa sh26) <| wT (oSt sh26) <| wT (oSt sh26) <| wM <| wZ) ?_
    refine pwp_ret ⟨_, (res_a (cs := (bx (encR (ofQ (Rat.divInt (rootI (flZ (x * (((((2 ^ k : Nat) : Int) : Int) : Rat) * ((((2 ^ k : Nat) : Int) : Int) : Rat))))) ((2 ^ k : Nat) : Int)))))) (d := (encR (ofQ (Rat.divInt (rootI (flZ (x * (((((2 ^ k : Nat) : Int) : Int) : Rat) * ((((2 ^ k : Nat) : Int) : Int) : Rat))))) ((2 ^ k : Nat) : Int))))) rfl rfl sh26 rfl rfl (res_a (cs := (bx (encR (ofQ (Rat.divInt (rootI (flZ (x * (((((2 ^ k : Nat) : Int) : Int) : Rat) * ((((2 ^ k : Nat) : Int) : Int) : Rat))))) ((2 ^ k : Nat) : Int)))))) (d := (encR (ofQ (Rat.divInt (rootI (flZ (x * (((((2 ^ k : Nat) : Int) : Int) : Rat) * ((((2 ^ k : Nat) : Int) : Int) : Rat))))) ((2 ^ k : Nat) : Int))))) rfl rfl sh26 rfl rfl (.tmp (d := (.val (.int .i64 (((0 : Nat) : Int))))) rfl .nil))), ?_⟩
    rw [hup]; rfl
  · replace h1 := ne_of_beq_false h1
    have hup := upI_n hx0 h1
    refine pwp_skip <| pwp_seq ?_
    have bn4 : IOk (ofZ ((rootI (flZ (x * (((((2 ^ k : Nat) : Int) : Int) : Rat) * ((((2 ^ k : Nat) : Int) : Int) : Rat))))) + 1)) ((rootI (flZ (x * (((((2 ^ k : Nat) : Int) : Int) : Rat) * ((((2 ^ k : Nat) : Int) : Int) : Rat))))) + 1) 142 := (iok_add (k := 142) (iok_root (fl_nn (sqp_nn hx0)) bn2) (iok_small (z := 1) (by decide)) (by decide))
    have bn5 : QL (Rat.divInt ((rootI (flZ (x * (((((2 ^ k : Nat) : Int) : Int) : Rat) * ((((2 ^ k : Nat) : Int) : Int) : Rat))))) + 1) ((2 ^ k : Nat) : Int)) 142 := (ql_divInt (n := 142) (Nat.le_trans (IOk.ln bn4) (by decide)) (Nat.le_trans (IOk.ln (iok_2s (k := k) (by omega))) (by decide)) (by decide))
    refine kd [(6, (vin 0))] [(1, some y1), (2, some (bx (encR (ofQ (Rat.divInt ((rootI (flZ (x * (((((2 ^ k : Nat) : Int) : Int) : Rat) * ((((2 ^ k : Nat) : Int) : Int) : Rat))))) + 1) ((2 ^ k : Nat) : Int))))))] mo (wR (oLa sh26) <| wR (oLa sh24) <| wE (oCl (g_whole1 1 (by decide) (by decide))) <| wE (oCl (rs_add (iok_root (fl_nn (sqp_nn hx0)) bn2) (iok_small (z := 1) (by decide)) (by decide) (by decide))) <| wM <| wE (oCl (dr_part ((rootI (flZ (x * (((((2 ^ k : Nat) : Int) : Int) : Rat) * ((((2 ^ k : Nat) : Int) : Int) : Rat))))) + 1) (iu bn4) k (by omega))) <| wT (oSt sh26) <| wT (oSt sh26) <| wM <| wZ) ?_
    refine pwp_ret ⟨_, (res_a (cs := (bx (encR (ofQ (Rat.divInt (rootI (flZ (x * (((((2 ^ k : Nat) : Int) : Int) : Rat) * ((((2 ^ k : Nat) : Int) : Int) : Rat))))) ((2 ^ k : Nat) : Int)))))) (d := (encR (ofQ (Rat.divInt (rootI (flZ (x * (((((2 ^ k : Nat) : Int) : Int) : Rat) * ((((2 ^ k : Nat) : Int) : Int) : Rat))))) ((2 ^ k : Nat) : Int))))) rfl rfl sh26 rfl rfl (res_a (cs := (bx (encR (ofQ (Rat.divInt ((rootI (flZ (x * (((((2 ^ k : Nat) : Int) : Int) : Rat) * ((((2 ^ k : Nat) : Int) : Int) : Rat))))) + 1) ((2 ^ k : Nat) : Int)))))) (d := (encR (ofQ (Rat.divInt ((rootI (flZ (x * (((((2 ^ k : Nat) : Int) : Int) : Rat) * ((((2 ^ k : Nat) : Int) : Int) : Rat))))) + 1) ((2 ^ k : Nat) : Int))))) rfl rfl sh26 rfl rfl (.tmp (d := (.val (.int .i64 (((0 : Nat) : Int))))) rfl .nil))), ?_⟩
    rw [hup]; rfl
end Go.Proofs.YtiooafhcpkdhcaaGreatDoor
