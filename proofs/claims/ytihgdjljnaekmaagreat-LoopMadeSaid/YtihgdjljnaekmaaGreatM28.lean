/- Part 28 of a proof: rules, plain facts, and functions walked. -/
import Derived.Test.YtihgdjljnaekmaaGreatM27
namespace Go.Proofs.YtihgdjljnaekmaaGreat
open Go.Fid
set_option maxRecDepth 4000
set_option linter.unusedVariables false
set_option linter.unusedSimpArgs false
theorem cb33 : callB Tryz.prog 33 = true := by kernel_rfl
theorem cb39 : callB Tryz.prog 39 = true := by kernel_rfl
theorem cb56 : callB Tryz.prog 56 = true := by kernel_rfl
theorem cb59 : callB Tryz.prog 59 = true := by kernel_rfl
theorem cb79 : callB Tryz.prog 79 = true := by kernel_rfl
theorem cb96 : callB Tryz.prog 96 = true := by kernel_rfl
theorem cb97 : callB Tryz.prog 97 = true := by kernel_rfl
theorem cb102 : callB Tryz.prog 102 = true := by kernel_rfl
theorem cb128 : callB Tryz.prog 128 = true := by kernel_rfl
theorem cb129 : callB Tryz.prog 129 = true := by kernel_rfl
theorem el34 : elemB Tryz.prog 34 = some (28, 4) := by kernel_rfl
theorem ze179 : zeroB Tryz.prog 179 = some [.bool false, .slice none 0 0, .bool false, .slice none 0 0, .bool false, .slice none 0 0, .bool false, .slice none 0 0] := by kernel_rfl
theorem zo179 : ZOk [.bool false, .slice none 0 0, .bool false, .slice none 0 0, .bool false, .slice none 0 0, .bool false, .slice none 0 0] [.val (.bool false), .sl 135 1 [], .val (.bool false), .sl 135 1 [], .val (.bool false), .sl 135 1 [], .val (.bool false), .sl 135 1 []] := by simp [ZOk, Value.oneCell']
theorem l_red (a : Int) (hal : -9223372036854775808 ≤ a) (hah : a ≤ 9223372036854775807) (b : Int) (hbl : -9223372036854775808 ≤ b) (hbh : b ≤ 9223372036854775807) (c : Int) (hcl : -9223372036854775808 ≤ c) (hch : c ≤ 9223372036854775807) (d : Int) (hdl : -9223372036854775808 ≤ d) (hdh : d ≤ 9223372036854775807) (hnz : Qnz (RQuat.mk a b c d)) : Takes Tryz.prog 97 [(.val (.int .i64 (a))), (.val (.int .i64 (b))), (.val (.int .i64 (c))), (.val (.int .i64 (d)))] (.tup [(encQuat (qV (RQuat.mk a b c d))), (.val (.int .i64 ((((qC (RQuat.mk a b c d)) : Nat) : Int))))]) := by
  refine fn_intro Tryz.func97 rfl cb97 rfl ?_
  show PWp _ _ _ _ ⟨[(0, (vi a)), (1, (vi b)), (2, (vi c)), (3, (vi d))], []⟩
  refine pwp_seq <| kx [(8, (.ref 0 0))] [(0, some (bx (encQuat (RQuat.mk 0 0 0 0))))] (zN (oAl 0 ze28 zo28) <| zM <| zZ) ?_
  refine pwp_seq <| kx [(9, (vin (qC (RQuat.mk a b c d))))] [(0, some (bx (encQuat (qV (RQuat.mk a b c d)))))] (zM <| zE (oCl (t_of a (by omega) (by omega))) <| zM <| zE (oCl (t_of b (by omega) (by omega))) <| zM <| zE (oCl (t_of c (by omega) (by omega))) <| zM <| zE (oCl (t_of d (by omega) (by omega))) <| zE (oBf ar179 ze179 zo179) <| zE (oCl (l_prim a b c d (iok_up (iok_int (z := a) (by omega) (by omega)) (by decide)) (iok_up (iok_int (z := b) (by omega) (by omega)) (by decide)) (iok_up (iok_int (z := c) (by omega) (by omega)) (by decide)) (iok_up (iok_int (z := d) (by omega) (by omega)) (by decide)) hnz)) <| zE oEx <| zE oEx <| zT (oSt sh28) <| zM <| zZ) ?_
  refine pwp_ret ⟨_, (res_a (cs := (bx (encQuat (qV (RQuat.mk a b c d))))) (d := (encQuat (qV (RQuat.mk a b c d)))) rfl rfl sh28 rfl rfl (.tmp (d := (.val (.int .i64 ((((qC (RQuat.mk a b c d)) : Nat) : Int))))) rfl .nil)), ?_⟩
  rfl
theorem l8_red (a : Int) (hal : -9223372036854775808 ≤ a) (hah : a ≤ 9223372036854775807) (b : Int) (hbl : -9223372036854775808 ≤ b) (hbh : b ≤ 9223372036854775807) (c : Int) (hcl : -9223372036854775808 ≤ c) (hch : c ≤ 9223372036854775807) (d : Int) (hdl : -9223372036854775808 ≤ d) (hdh : d ≤ 9223372036854775807) (hnz : Qnz (RQuat.mk a b c d)) : Takes Tryz.prog 129 [(.val (.int .i64 (a))), (.val (.int .i64 (b))), (.val (.int .i64 (c))), (.val (.int .i64 (d)))] (.tup [(encQuat (qV (RQuat.mk a b c d))), (.val (.int .i64 ((((qC (RQuat.mk a b c d)) : Nat) : Int))))]) := by
  refine fn_intro Tryz.func129 rfl cb129 rfl ?_
  show PWp _ _ _ _ ⟨[(0, (vi a)), (1, (vi b)), (2, (vi c)), (3, (vi d))], []⟩
  refine pwp_seq <| kx [(8, (.ref 0 0))] [(0, some (bx (encQuat (RQuat.mk 0 0 0 0))))] (zN (oAl 0 ze28 zo28) <| zM <| zZ) ?_
  refine pwp_seq <| kx [(9, (vin (qC (RQuat.mk a b c d))))] [(0, some (bx (encQuat (qV (RQuat.mk a b c d)))))] (zM <| zE (oCl (r_of a (by omega) (by omega))) <| zM <| zE (oCl (r_of b (by omega) (by omega))) <| zM <| zE (oCl (r_of c (by omega) (by omega))) <| zM <| zE (oCl (r_of d (by omega) (by omega))) <| zE (oBs el192 ze49 zo49) <| zE (oCl (l8_prim a b c d (iok_up (iok_int (z := a) (by omega) (by omega)) (by decide)) (iok_up (iok_int (z := b) (by omega) (by omega)) (by decide)) (iok_up (iok_int (z := c) (by omega) (by omega)) (by decide)) (iok_up (iok_int (z := d) (by omega) (by omega)) (by decide)) hnz)) <| zE oEx <| zE oEx <| zT (oSt sh28) <| zM <| zZ) ?_
  refine pwp_ret ⟨_, (res_a (cs := (bx (encQuat (qV (RQuat.mk a b c d))))) (d := (encQuat (qV (RQuat.mk a b c d)))) rfl rfl sh28 rfl rfl (.tmp (d := (.val (.int .i64 ((((qC (RQuat.mk a b c d)) : Nat) : Int))))) rfl .nil)), ?_⟩
  rfl
theorem l_canon (q : RQuat) (hq : Qok q) : Takes Tryz.prog 102 [(encQuat q)] (.tup [(encQuat (qV q)), (.val (.int .i64 ((((qC q) : Nat) : Int))))]) := by
  obtain ⟨qa_, qb_, qc_, qd_⟩ := hq.2.bd
  refine fn_intro Tryz.func102 rfl cb102 rfl ?_
  show PWp _ _ _ _ ⟨[(0, (.d (encQuat q)))], []⟩
  refine pwp_seq <| kx [(1, (.ref 0 0)), (2, (.ref 1 0))] [(0, some (bx (encQuat q))), (1, some (bx (encQuat (RQuat.mk 0 0 0 0))))] (zN (oBx 0) <| zN (oAl 1 ze28 zo28) <| zM <| zZ) ?_
  refine pwp_seq <| pwp_seq <| kx [(4, (vin (rotC q.a q.b q.c q.d)))] [] (zR (oLa sh28) <| zE (oCl (q_chk q.a q.b q.c q.d)) <| zM <| zZ) ?_
  refine pwp_seq <| kx [(8, (vb false))] [] (zM <| zE (oBk false oNe (by exact bne_eq_false_iff_eq.2 (by rw [show (rotC q.a q.b q.c q.d) = 0 from (qok_rot.1 hq)]; rfl))) <| zZ) ?_
  refine pwp_cond (b := false) (by kernel_rfl) (fun h => by cases h) (fun _ => ?_)
  refine pwp_skip <| pwp_seq <| kx [(3, (vin (qC (RQuat.mk q.a q.b q.c q.d))))] [(1, some (bx (encQuat (qV (RQuat.mk q.a q.b q.c q.d)))))] (zE (oFr fo28_0) <| zR (oL1 sh3) <| zE (oFr fo28_1) <| zR (oL1 sh3) <| zE (oFr fo28_2) <| zR (oL1 sh3) <| zE (oFr fo28_3) <| zR (oL1 sh3) <| zE (oCl (l_red q.a (by omega) (by omega) q.b (by omega) (by omega) q.c (by omega) (by omega) q.d (by omega) (by omega) hq.1)) <| zE oEx <| zE oEx <| zT (oSt sh28) <| zM <| zZ) ?_
  refine pwp_ret ⟨_, (res_a (cs := (bx (encQuat (qV (RQuat.mk q.a q.b q.c q.d))))) (d := (encQuat (qV (RQuat.mk q.a q.b q.c q.d)))) rfl rfl sh28 rfl rfl (.tmp (d := (.val (.int .i64 ((((qC (RQuat.mk q.a q.b q.c q.d)) : Nat) : Int))))) rfl .nil)), ?_⟩
  rfl
theorem l_same (p : RQuat) (q : RQuat) (hp : Qok p) (hq : Qok q) : Takes Tryz.prog 59 [(encQuat p), (encQuat q)] (.val (.bool ((sameQ p q)))) := by
  refine fn_intro Tryz.func59 rfl cb59 rfl ?_
  show PWp _ _ _ _ ⟨[(0, (.d (encQuat p))), (1, (.d (encQuat q)))], []⟩
  refine pwp_seq <| kx [(2, (.ref 0 0)), (3, (.ref 1 0))] [(0, some (bx (encQuat p))), (1, some (bx (encQuat q)))] (zN (oBx 0) <| zN (oBx 1) <| zM <| zZ) ?_
  refine pwp_seq <| kx [(5, (.ref 2 0)), (6, (vin (qC p)))] [(2, some (bx (encQuat (qV p))))] (zR (oLa sh28) <| zE (oCl (l_canon p hp)) <| zM <| zE oEx <| zE oEx <| zN (oAl 2 ze28 zo28) <| zT (oSt sh28) <| zM <| zZ) ?_
  refine pwp_seq <| kx [(7, (.ref 3 0)), (8, (vin (qC q)))] [(3, some (bx (encQuat (qV q))))] (zR (oLa sh28) <| zE (oCl (l_canon q hq)) <| zM <| zE oEx <| zE oEx <| zN (oAl 3 ze28 zo28) <| zT (oSt sh28) <| zM <| zZ) ?_
  refine pwp_seq <| kx [(4, (vb (true && (decide ([(qV p).a, (qV p).b, (qV p).c, (qV p).d] = [(qV q).a, (qV q).b, (qV q).c, (qV q).d])))))] [] (zM <| zE (oBk true oEq (by exact beq_iff_eq.2 (by rw [show (qC p) = 0 from (qC_ok hp)]; rfl))) <| zM <| zM <| zE (oBk true oEq (by exact beq_iff_eq.2 (by rw [show (qC q) = 0 from (qC_ok hq)]; rfl))) <| zE oPt <| zM <| zR (oLa sh28) <| zR (oLa sh28) <| zE (oEs eqs28 .i64 [(qV p).a, (qV p).b, (qV p).c, (qV p).d] [(qV q).a, (qV q).b, (qV q).c, (qV q).d]) <| zE oPa <| zM <| zZ) ?_
  refine pwp_ret ⟨_, (.tmp (d := (.val (.bool ((true && (decide ([(qV p).a, (qV p).b, (qV p).c, (qV p).d] = [(qV q).a, (qV q).b, (qV q).c, (qV q).d]))))))) rfl .nil), ?_⟩
  rfl
theorem l8_canon (q : RQuat) (hq : Qok q) : Takes Tryz.prog 79 [(encQuat q)] (.tup [(encQuat (qV q)), (.val (.int .i64 ((((qC q) : Nat) : Int))))]) := by
  obtain ⟨qa_, qb_, qc_, qd_⟩ := hq.2.bd
  refine fn_intro Tryz.func79 rfl cb79 rfl ?_
  show PWp _ _ _ _ ⟨[(0, (.d (encQuat q)))], []⟩
  refine pwp_seq <| kx [(1, (.ref 0 0)), (2, (.ref 1 0))] [(0, some (bx (encQuat q))), (1, some (bx (encQuat (RQuat.mk 0 0 0 0))))] (zN (oBx 0) <| zN (oAl 1 ze28 zo28) <| zM <| zZ) ?_
  refine pwp_seq <| kx [(4, (vin (rotC q.a q.b q.c q.d)))] [] (zR (oLa sh28) <| zE (oCl (qs_chk q.a q.b q.c q.d)) <| zM <| zZ) ?_
  refine pwp_seq <| pwp_seq <| kx [(8, (vb false))] [] (zM <| zE (oBk false oNe (by exact bne_eq_false_iff_eq.2 (by rw [show (rotC q.a q.b q.c q.d) = 0 from (qok_rot.1 hq)]; rfl))) <| zZ) ?_
  refine pwp_cond (b := false) (by kernel_rfl) (fun h => by cases h) (fun _ => ?_)
  refine pwp_skip <| pwp_seq <| kx [(3, (vin (qC (RQuat.mk q.a q.b q.c q.d))))] [(1, some (bx (encQuat (qV (RQuat.mk q.a q.b q.c q.d)))))] (zE (oFr fo28_0) <| zR (oL1 sh3) <| zE (oFr fo28_1) <| zR (oL1 sh3) <| zE (oFr fo28_2) <| zR (oL1 sh3) <| zE (oFr fo28_3) <| zR (oL1 sh3) <| zE (oCl (l8_red q.a (by omega) (by omega) q.b (by omega) (by omega) q.c (by omega) (by omega) q.d (by omega) (by omega) hq.1)) <| zE oEx <| zE oEx <| zT (oSt sh28) <| zM <| zZ) ?_
  refine pwp_ret ⟨_, (res_a (cs := (bx (encQuat (qV (RQuat.mk q.a q.b q.c q.d))))) (d := (encQuat (qV (RQuat.mk q.a q.b q.c q.d)))) rfl rfl sh28 rfl rfl (.tmp (d := (.val (.int .i64 ((((qC (RQuat.mk q.a q.b q.c q.d)) : Nat) : Int))))) rfl .nil)), ?_⟩
  rfl
theorem l8_same (p : RQuat) (q : RQuat) (hp : Qok p) (hq : Qok q) : Takes Tryz.prog 39 [(encQuat p), (encQuat q)] (.val (.bool ((sameQ p q)))) := by
  refine fn_intro Tryz.func39 rfl cb39 rfl ?_
  show PWp _ _ _ _ ⟨[(0, (.d (encQuat p))), (1, (.d (encQuat q)))], []⟩
  refine pwp_seq <| kx [(2, (.ref 0 0)), (3, (.ref 1 0))] [(0, some (bx (encQuat p))), (1, some (bx (encQuat q)))] (zN (oBx 0) <| zN (oBx 1) <| zM <| zZ) ?_
  refine pwp_seq <| kx [(5, (.ref 2 0)), (6, (vin (qC p)))] [(2, some (bx (encQuat (qV p))))] (zR (oLa sh28) <| zE (oCl (l8_canon p hp)) <| zM <| zE oEx <| zE oEx <| zN (oAl 2 ze28 zo28) <| zT (oSt sh28) <| zM <| zZ) ?_
  refine pwp_seq <| kx [(7, (.ref 3 0)), (8, (vin (qC q)))] [(3, some (bx (encQuat (qV q))))] (zR (oLa sh28) <| zE (oCl (l8_canon q hq)) <| zM <| zE oEx <| zE oEx <| zN (oAl 3 ze28 zo28) <| zT (oSt sh28) <| zM <| zZ) ?_
  refine pwp_seq <| kx [(4, (vb (true && (decide ([(qV p).a, (qV p).b, (qV p).c, (qV p).d] = [(qV q).a, (qV q).b, (qV q).c, (qV q).d])))))] [] (zM <| zE (oBk true oEq (by exact beq_iff_eq.2 (by rw [show (qC p) = 0 from (qC_ok hp)]; rfl))) <| zM <| zM <| zE (oBk true oEq (by exact beq_iff_eq.2 (by rw [show (qC q) = 0 from (qC_ok hq)]; rfl))) <| zE oPt <| zM <| zR (oLa sh28) <| zR (oLa sh28) <| zE (oEs eqs28 .i64 [(qV p).a, (qV p).b, (qV p).c, (qV p).d] [(qV q).a, (qV q).b, (qV q).c, (qV q).d]) <| zE oPa <| zM <| zZ) ?_
  refine pwp_ret ⟨_, (.tmp (d := (.val (.bool ((true && (decide ([(qV p).a, (qV p).b, (qV p).c, (qV p).d] = [(qV q).a, (qV q).b, (qV q).c, (qV q).d]))))))) rfl .nil), ?_⟩
  rfl
theorem l_conj (q : RQuat) (hq : Qok q) : Takes Tryz.prog 56 [(encQuat q)] (.tup [(encQuat (qV (qcj q))), (.val (.int .i64 ((((qC (qcj q)) : Nat) : Int))))]) := by
  obtain ⟨qa_, qb_, qc_, qd_⟩ := hq.2.bd
  refine fn_intro Tryz.func56 rfl cb56 rfl ?_
  show PWp _ _ _ _ ⟨[(0, (.d (encQuat q)))], []⟩
  refine pwp_seq <| kx [(1, (.ref 0 0)), (2, (.ref 1 0))] [(0, some (bx (encQuat q))), (1, some (bx (encQuat (RQuat.mk 0 0 0 0))))] (zN (oBx 0) <| zN (oAl 1 ze28 zo28) <| zM <| zZ) ?_
  refine pwp_seq <| pwp_seq <| kx [(4, (vin (rotC q.a q.b q.c q.d)))] [] (zR (oLa sh28) <| zE (oCl (q_chk q.a q.b q.c q.d)) <| zM <| zZ) ?_
  refine pwp_seq <| kx [(8, (vb false))] [] (zM <| zE (oBk false oNe (by exact bne_eq_false_iff_eq.2 (by rw [show (rotC q.a q.b q.c q.d) = 0 from (qok_rot.1 hq)]; rfl))) <| zZ) ?_
  refine pwp_cond (b := false) (by kernel_rfl) (fun h => by cases h) (fun _ => ?_)
  refine pwp_skip <| pwp_seq <| kx [(3, (vin (qC (RQuat.mk q.a (-q.b) (-q.c) (-q.d)))))] [(1, some (bx (encQuat (qV (RQuat.mk q.a (-q.b) (-q.c) (-q.d))))))] (zE (oFr fo28_0) <| zR (oL1 sh3) <| zE (oFr fo28_1) <| zR (oL1 sh3) <| zE (oNg (-q.b) (hr := by exact (wAny (by first | omega | rfl | (dsimp only; omega)) (by simp only [kLo]; omega) (by simp only [kHi]; omega)))) <| zE (oFr fo28_2) <| zR (oL1 sh3) <| zE (oNg (-q.c) (hr := by exact (wAny (by first | omega | rfl | (dsimp only; omega)) (by simp only [kLo]; omega) (by simp only [kHi]; omega)))) <| zE (oFr fo28_3) <| zR (oL1 sh3) <| zE (oNg (-q.d) (hr := by exact (wAny (by first | omega | rfl | (dsimp only; omega)) (by simp only [kLo]; omega) (by simp only [kHi]; omega)))) <| zE (oCl (l_red q.a (by omega) (by omega) (-q.b) (by omega) (by omega) (-q.c) (by omega) (by omega) (-q.d) (by omega) (by omega) (qcj_nz hq.1))) <| zE oEx <| zE oEx <| zT (oSt sh28) <| zM <| zZ) ?_
  refine pwp_ret ⟨_, (res_a (cs := (bx (encQuat (qV (RQuat.mk q.a (-q.b) (-q.c) (-q.d)))))) (d := (encQuat (qV (RQuat.mk q.a (-q.b) (-q.c) (-q.d))))) rfl rfl sh28 rfl rfl (.tmp (d := (.val (.int .i64 ((((qC (RQuat.mk q.a (-q.b) (-q.c) (-q.d))) : Nat) : Int))))) rfl .nil)), ?_⟩
  rfl
theorem l8_conj (q : RQuat) (hq : Qok q) : Takes Tryz.prog 33 [(encQuat q)] (.tup [(encQuat (qV (qcj q))), (.val (.int .i64 ((((qC (qcj q)) : Nat) : Int))))]) := by
  obtain ⟨qa_, qb_, qc_, qd_⟩ := hq.2.bd
  refine fn_intro Tryz.func33 rfl cb33 rfl ?_
  show PWp _ _ _ _ ⟨[(0, (.d (encQuat q)))], []⟩
  refine pwp_seq <| kx [(1, (.ref 0 0)), (2, (.ref 1 0))] [(0, some (bx (encQuat q))), (1, some (bx (encQuat (RQuat.mk 0 0 0 0))))] (zN (oBx 0) <| zN (oAl 1 ze28 zo28) <| zM <| zZ) ?_
  refine pwp_seq <| kx [(3, (vin (qC (RQuat.mk q.a (-q.b) (-q.c) (-q.d)))))] [(1, some (bx (encQuat (qV (RQuat.mk q.a (-q.b) (-q.c) (-q.d))))))] (zE (oFr fo28_0) <| zR (oL1 sh3) <| zE (oFr fo28_1) <| zR (oL1 sh3) <| zE (oNg (-q.b) (hr := by exact (wAny (by first | omega | rfl | (dsimp only; omega)) (by simp only [kLo]; omega) (by simp only [kHi]; omega)))) <| zE (oFr fo28_2) <| zR (oL1 sh3) <| zE (oNg (-q.c) (hr := by exact (wAny (by first | omega | rfl | (dsimp only; omega)) (by simp only [kLo]; omega) (by simp only [kHi]; omega)))) <| zE (oFr fo28_3) <| zR (oL1 sh3) <| zE (oNg (-q.d) (hr := by exact (wAny (by first | omega | rfl | (dsimp only; omega)) (by simp only [kLo]; omega) (by simp only [kHi]; omega)))) <| zE (oBd pl28 ze28 zo28) <| zE (oCl (l8_canon (RQuat.mk q.a (-q.b) (-q.c) (-q.d)) (qcj_ok hq))) <| zE oEx <| zE oEx <| zT (oSt sh28) <| zM <| zZ) ?_
  refine pwp_ret ⟨_, (res_a (cs := (bx (encQuat (qV (RQuat.mk q.a (-q.b) (-q.c) (-q.d)))))) (d := (encQuat (qV (RQuat.mk q.a (-q.b) (-q.c) (-q.d))))) rfl rfl sh28 rfl rfl (.tmp (d := (.val (.int .i64 ((((qC (RQuat.mk q.a (-q.b) (-q.c) (-q.d))) : Nat) : Int))))) rfl .nil)), ?_⟩
  rfl
theorem l_chkd (p q : RQuat) (hp : Qok p) (hq : Qok q) : Takes Tryz.prog 96 [(.sl 28 4 (List.map encQuat [p, q]))] (.val (.int .i64 (0))) := by
  refine fn_intro Tryz.func96 rfl cb96 rfl ?_
  show PWp _ _ _ _ ⟨[(0, (vl 28 4 encQuat [p, q]))], []⟩
  refine pwp_seq <| kx [] [] (zM <| zZ) ?_
  refine pwp_seq <| pwp_seq <| kx [(6, (vl 28 4 encQuat [p, q])), (7, (vin 2)), (8, (vin 0))] [] (zM <| zE (oLn el34 2) <| zM <| zZ) ?_
  refine pwp_block <| pwp_rounds 20 ?_
  refine pwp_round <| pwp_seq <| kx [(9, (vb true))] [] (zE (oBk true oLt) <| zZ) ?_
  refine pwp_seq <| pwp_cond (b := true) (by kernel_rfl) (fun _ => ?_) (fun h => by cases h)
  refine pwp_skip <| pwp_seq <| pwp_block <| pwp_seq <| kx [(4, (.ref 0 0))] [(0, some (bx (encQuat p)))] (zE (oXs el34 0) <| zE (oCa sh28) <| zN (oAl 0 ze28 zo28) <| zT (oSt sh28) <| zZ) ?_
  refine pwp_seq <| kx [(5, (vin (rotC p.a p.b p.c p.d)))] [] (zR (oLa sh28) <| zE (oCl (q_chk p.a p.b p.c p.d)) <| zM <| zZ) ?_
  refine pwp_seq <| kx [(15, (vb false))] [] (zM <| zE (oBk false oNe (by exact bne_eq_false_iff_eq.2 (by rw [show (rotC p.a p.b p.c p.d) = 0 from (qok_rot.1 hp)]; rfl))) <| zZ) ?_
  refine pwp_cond (b := false) (by kernel_rfl) (fun h => by cases h) (fun _ => ?_)
  refine pwp_skip <| kx [(8, (vin 1))] [] (zE (oAd 1 (hr := by decide)) <| zM <| zZ) ?_
  refine pwp_again (SimImp.refl _) ?_
  refine pwp_seq <| kx [(9, (vb true))] [] (zE (oBk true oLt) <| zZ) ?_
  refine pwp_seq <| pwp_cond (b := true) (by kernel_rfl) (fun _ => ?_) (fun h => by cases h)
  refine pwp_skip <| pwp_seq <| pwp_block <| pwp_seq <| kx [(4, (.ref 1 0))] [(1, some (bx (encQuat q)))] (zE (oXs el34 1) <| zE (oCa sh28) <| zN (oAl 1 ze28 zo28) <| zT (oSt sh28) <| zZ) ?_
  refine pwp_seq <| kx [(5, (vin (rotC q.a q.b q.c q.d)))] [] (zR (oLa sh28) <| zE (oCl (q_chk q.a q.b q.c q.d)) <| zM <| zZ) ?_
  refine pwp_seq <| kx [(15, (vb false))] [] (zM <| zE (oBk false oNe (by exact bne_eq_false_iff_eq.2 (by rw [show (rotC q.a q.b q.c q.d) = 0 from (qok_rot.1 hq)]; rfl))) <| zZ) ?_
  refine pwp_cond (b := false) (by kernel_rfl) (fun h => by cases h) (fun _ => ?_)
  refine pwp_skip <| kx [(8, (vin 2))] [] (zE (oAd 2 (hr := by decide)) <| zM <| zZ) ?_
  refine pwp_again (SimImp.refl _) ?_
  refine pwp_seq <| kx [(9, (vb false))] [] (zE (oBk false oLt) <| zZ) ?_
  refine pwp_seq <| pwp_cond (b := false) (by kernel_rfl) (fun h => by cases h) (fun _ => ?_)
  refine pwp_exit <| pwp_seq <| kx [(2, (vin 0))] [] (zM <| zZ) ?_
  refine pwp_ret ⟨_, (.tmp (d := (.val (.int .i64 (((0 : Nat) : Int))))) rfl .nil), ?_⟩
  rfl
theorem l8_both (p : RQuat) (q : RQuat) (hp : Qok p) (hq : Qok q) : Takes Tryz.prog 128 [(encQuat p), (encQuat q)] (.val (.int .i64 (0))) := by
  refine fn_intro Tryz.func128 rfl cb128 rfl ?_
  show PWp _ _ _ _ ⟨[(0, (.d (encQuat p))), (1, (.d (encQuat q)))], []⟩
  refine pwp_seq <| kx [(2, (.ref 0 0)), (3, (.ref 1 0))] [(0, some (bx (encQuat p))), (1, some (bx (encQuat q)))] (zN (oBx 0) <| zN (oBx 1) <| zM <| zZ) ?_
  refine pwp_seq <| kx [(5, (vin (rotC p.a p.b p.c p.d)))] [] (zR (oLa sh28) <| zE (oCl (qs_chk p.a p.b p.c p.d)) <| zM <| zZ) ?_
  refine pwp_seq <| pwp_seq <| kx [(9, (vb false))] [] (zM <| zE (oBk false oNe (by exact bne_eq_false_iff_eq.2 (by rw [show (rotC p.a p.b p.c p.d) = 0 from (qok_rot.1 hp)]; rfl))) <| zZ) ?_
  refine pwp_cond (b := false) (by kernel_rfl) (fun h => by cases h) (fun _ => ?_)
  refine pwp_skip <| pwp_seq <| kx [(4, (vin (rotC q.a q.b q.c q.d)))] [] (zR (oLa sh28) <| zE (oCl (qs_chk q.a q.b q.c q.d)) <| zM <| zZ) ?_
  refine pwp_ret ⟨_, (.tmp (d := (.val (.int .i64 ((((rotC q.a q.b q.c q.d) : Nat) : Int))))) rfl .nil), ?_⟩
  rw [show rotC q.a q.b q.c q.d = 0 from qok_rot.1 hq]; rfl
end Go.Proofs.YtihgdjljnaekmaaGreat
namespace Go.Proofs.YtihgdjljnaekmaaGreat
open Go.Fid
set_option maxRecDepth 4000
set_option linter.unusedVariables false
set_option linter.unusedSimpArgs false
theorem cb50 : callB Tryz.prog 50 = true := by kernel_rfl
theorem cb61 : callB Tryz.prog 61 = true := by kernel_rfl
theorem cb75 : callB Tryz.prog 75 = true := by kernel_rfl
theorem l_mul (p : RQuat) (q : RQuat) (hp : Qok p) (hq : Qok q) : Takes Tryz.prog 50 [(encQuat p), (encQuat q)] (.tup [(encQuat (qV (qmul p q))), (.val (.int .i64 ((((qC (qmul p q)) : Nat) : Int))))]) := by
  obtain ⟨pa_, pb_, pc_, pd_⟩ := hp.2.bd
  obtain ⟨qa_, qb_, qc_, qd_⟩ := hq.2.bd
  have := sq_b pa_ qa_
  have := sq_b pa_ qb_
  have := sq_b pa_ qc_
  have := sq_b pa_ qd_
  have := sq_b pb_ qa_
  have := sq_b pb_ qb_
  have := sq_b pb_ qc_
  have := sq_b pb_ qd_
  have := sq_b pc_ qa_
  have := sq_b pc_ qb_
  have := sq_b pc_ qc_
  have := sq_b pc_ qd_
  have := sq_b pd_ qa_
  have := sq_b pd_ qb_
  have := sq_b pd_ qc_
  have := sq_b pd_ qd_
  refine fn_intro Tryz.func50 rfl cb50 rfl ?_
  show PWp _ _ _ _ ⟨[(0, (.d (encQuat p))), (1, (.d (encQuat q)))], []⟩
  refine pwp_seq <| kx [(2, (.ref 0 0)), (3, (.ref 1 0)), (4, (.ref 2 0))] [(0, some (bx (encQuat p))), (1, some (bx (encQuat q))), (2, some (bx (encQuat (RQuat.mk 0 0 0 0))))] (zN (oBx 0) <| zN (oBx 1) <| zN (oAl 2 ze28 zo28) <| zM <| zZ) ?_
  refine pwp_seq <| pwp_seq <| kx [(6, (vi 0))] [] (zR (oLa sh28) <| zR (oLa sh28) <| zE (oBs el34 ze28 zo28) <| zE (oCl (l_chkd p q hp hq)) <| zM <| zZ) ?_
  refine pwp_seq <| kx [(12, (vb false))] [] (zM <| zE (oBk false oNe) <| zZ) ?_
  refine pwp_cond (b := false) (by kernel_rfl) (fun h => by cases h) (fun _ => ?_)
  refine pwp_skip <| pwp_seq <| kx [(5, (vin (qC (RQuat.mk ((((p.a * q.a) - (p.b * q.b)) - (p.c * q.c)) - (p.d * q.d)) ((((p.a * q.b) + (p.b * q.a)) + (p.c * q.d)) - (p.d * q.c)) ((((p.a * q.c) - (p.b * q.d)) + (p.c * q.a)) + (p.d * q.b)) ((((p.a * q.d) + (p.b * q.c)) - (p.c * q.b)) + (p.d * q.a))))))] [(2, some (bx (encQuat (qV (RQuat.mk ((((p.a * q.a) - (p.b * q.b)) - (p.c * q.c)) - (p.d * q.d)) ((((p.a * q.b) + (p.b * q.a)) + (p.c * q.d)) - (p.d * q.c)) ((((p.a * q.c) - (p.b * q.d)) + (p.c * q.a)) + (p.d * q.b)) ((((p.a * q.d) + (p.b * q.c)) - (p.c * q.b)) + (p.d * q.a)))))))] (zE (oFr fo28_0) <| zR (oL1 sh3) <| zE (oFr fo28_0) <| zR (oL1 sh3) <| zE (zMl (p.a * q.a) (hr := by exact (wAny rfl (by simp only [kLo]; omega) (by simp only [kHi]; omega)))) <| zE (oFr fo28_1) <| zR (oL1 sh3) <| zE (oFr fo28_1) <| zR (oL1 sh3) <| zE (zMl (p.b * q.b) (hr := by exact (wAny rfl (by simp only [kLo]; omega) (by simp only [kHi]; omega)))) <| zE (zSb ((p.a * q.a) - (p.b * q.b)) (hr := by exact (wAny rfl (by simp only [kLo]; omega) (by simp only [kHi]; omega)))) <| zE (oFr fo28_2) <| zR (oL1 sh3) <| zE (oFr fo28_2) <| zR (oL1 sh3) <| zE (zMl (p.c * q.c) (hr := by exact (wAny rfl (by simp only [kLo]; omega) (by simp only [kHi]; omega)))) <| zE (zSb (((p.a * q.a) - (p.b * q.b)) - (p.c * q.c)) (hr := by exact (wAny rfl (by simp only [kLo]; omega) (by simp only [kHi]; omega)))) <| zE (oFr fo28_3) <| zR (oL1 sh3) <| zE (oFr fo28_3) <| zR (oL1 sh3) <| zE (zMl (p.d * q.d) (hr := by exact (wAny rfl (by simp only [kLo]; omega) (by simp only [kHi]; omega)))) <| zE (zSb ((((p.a * q.a) - (p.b * q.b)) - (p.c * q.c)) - (p.d * q.d)) (hr := by exact (wAny rfl (by simp only [kLo]; omega) (by simp only [kHi]; omega)))) <| zE (oFr fo28_0) <| zR (oL1 sh3) <| zE (oFr fo28_1) <| zR (oL1 sh3) <| zE (zMl (p.a * q.b) (hr := by exact (wAny rfl (by simp only [kLo]; omega) (by simp only [kHi]; omega)))) <| zE (oFr fo28_1) <| zR (oL1 sh3) <| zE (oFr fo28_0) <| zR (oL1 sh3) <| zE (zMl (p.b * q.a) (hr := by exact (wAny rfl (by simp only [kLo]; omega) (by simp only [kHi]; omega)))) <| zE (zAd ((p.a * q.b) + (p.b * q.a)) (hr := by exact (wAny rfl (by simp only [kLo]; omega) (by simp only [kHi]; omega)))) <| zE (oFr fo28_2) <| zR (oL1 sh3) <| zE (oFr fo28_3) <| zR (oL1 sh3) <| zE (zMl (p.c * q.d) (hr := by exact (wAny rfl (by simp only [kLo]; omega) (by simp only [kHi]; omega)))) <| zE (zAd (((p.a * q.b) + (p.b * q.a)) + (p.c * q.d)) (hr := by exact (wAny rfl (by simp only [kLo]; omega) (by simp only [kHi]; omega)))) <| zE (oFr fo28_3) <| zR (oL1 sh3) <| zE (oFr fo28_2) <| zR (oL1 sh3) <| zE (zMl (p.d * q.c) (hr := by exact (wAny rfl (by simp only [kLo]; omega) (by simp only [kHi]; omega)))) <| zE (zSb ((((p.a * q.b) + (p.b * q.a)) + (p.c * q.d)) - (p.d * q.c)) (hr := by exact (wAny rfl (by simp only [kLo]; omega) (by simp only [kHi]; omega)))) <| zE (oFr fo28_0) <| zR (oL1 sh3) <| zE (oFr fo28_2) <| zR (oL1 sh3) <| zE (zMl (p.a * q.c) (hr := by exact (wAny rfl (by simp only [kLo]; omega) (by simp only [kHi]; omega)))) <| zE (oFr fo28_1) <| zR (oL1 sh3) <| zE (oFr fo28_3) <| zR (oL1 sh3) <| zE (zMl (p.b * q.d) (hr := by exact (wAny rfl (by simp only [kLo]; omega) (by simp only [kHi]; omega)))) <| zE (zSb ((p.a * q.c) - (p.b * q.d)) (hr := by exact (wAny rfl (by simp only [kLo]; omega) (by simp only [kHi]; omega)))) <| zE (oFr fo28_2) <| zR (oL1 sh3) <| zE (oFr fo28_0) <| zR (oL1 sh3) <| zE (zMl (p.c * q.a) (hr := by exact (wAny rfl (by simp only [kLo]; omega) (by simp only [kHi]; omega)))) <| zE (zAd (((p.a * q.c) - (p.b * q.d)) + (p.c * q.a)) (hr := by exact (wAny rfl (by simp only [kLo]; omega) (by simp only [kHi]; omega)))) <| zE (oFr fo28_3) <| zR (oL1 sh3) <| zE (oFr fo28_1) <| zR (oL1 sh3) <| zE (zMl (p.d * q.b) (hr := by exact (wAny rfl (by simp only [kLo]; omega) (by simp only [kHi]; omega)))) <| zE (zAd ((((p.a * q.c) - (p.b * q.d)) + (p.c * q.a)) + (p.d * q.b)) (hr := by exact (wAny rfl (by simp only [kLo]; omega) (by simp only [kHi]; omega)))) <| zE (oFr fo28_0) <| zR (oL1 sh3) <| zE (oFr fo28_3) <| zR (oL1 sh3) <| zE (zMl (p.a * q.d) (hr := by exact (wAny rfl (by simp only [kLo]; omega) (by simp only [kHi]; omega)))) <| zE (oFr fo28_1) <| zR (oL1 sh3) <| zE (oFr fo28_2) <| zR (oL1 sh3) <| zE (zMl (p.b * q.c) (hr := by exact (wAny rfl (by simp only [kLo]; omega) (by simp only [kHi]; omega)))) <| zE (zAd ((p.a * q.d) + (p.b * q.c)) (hr := by exact (wAny rfl (by simp only [kLo]; omega) (by simp only [kHi]; omega)))) <| zE (oFr fo28_2) <| zR (oL1 sh3) <| zE (oFr fo28_1) <| zR (oL1 sh3) <| zE (zMl (p.c * q.b) (hr := by exact (wAny rfl (by simp only [kLo]; omega) (by simp only [kHi]; omega)))) <| zE (zSb (((p.a * q.d) + (p.b * q.c)) - (p.c * q.b)) (hr := by exact (wAny rfl (by simp only [kLo]; omega) (by simp only [kHi]; omega)))) <| zE (oFr fo28_3) <| zR (oL1 sh3) <| zE (oFr fo28_0) <| zR (oL1 sh3) <| zE (zMl (p.d * q.a) (hr := by exact (wAny rfl (by simp only [kLo]; omega) (by simp only [kHi]; omega)))) <| zE (zAd ((((p.a * q.d) + (p.b * q.c)) - (p.c * q.b)) + (p.d * q.a)) (hr := by exact (wAny rfl (by simp only [kLo]; omega) (by simp only [kHi]; omega)))) <| zE (oCl (l_red ((((p.a * q.a) - (p.b * q.b)) - (p.c * q.c)) - (p.d * q.d)) (by omega) (by omega) ((((p.a * q.b) + (p.b * q.a)) + (p.c * q.d)) - (p.d * q.c)) (by omega) (by omega) ((((p.a * q.c) - (p.b * q.d)) + (p.c * q.a)) + (p.d * q.b)) (by omega) (by omega) ((((p.a * q.d) + (p.b * q.c)) - (p.c * q.b)) + (p.d * q.a)) (by omega) (by omega) (qmul_nz hp.1 hq.1))) <| zE oEx <| zE oEx <| zT (oSt sh28) <| zM <| zZ) ?_
  refine pwp_ret ⟨_, (res_a (cs := (bx (encQuat (qV (RQuat.mk ((((p.a * q.a) - (p.b * q.b)) - (p.c * q.c)) - (p.d * q.d)) ((((p.a * q.b) + (p.b * q.a)) + (p.c * q.d)) - (p.d * q.c)) ((((p.a * q.c) - (p.b * q.d)) + (p.c * q.a)) + (p.d * q.b)) ((((p.a * q.d) + (p.b * q.c)) - (p.c * q.b)) + (p.d * q.a))))))) (d := (encQuat (qV (RQuat.mk ((((p.a * q.a) - (p.b * q.b)) - (p.c * q.c)) - (p.d * q.d)) ((((p.a * q.b) + (p.b * q.a)) + (p.c * q.d)) - (p.d * q.c)) ((((p.a * q.c) - (p.b * q.d)) + (p.c * q.a)) + (p.d * q.b)) ((((p.a * q.d) + (p.b * q.c)) - (p.c * q.b)) + (p.d * q.a)))))) rfl rfl sh28 rfl rfl (.tmp (d := (.val (.int .i64 ((((qC (RQuat.mk ((((p.a * q.a) - (p.b * q.b)) - (p.c * q.c)) - (p.d * q.d)) ((((p.a * q.b) + (p.b * q.a)) + (p.c * q.d)) - (p.d * q.c)) ((((p.a * q.c) - (p.b * q.d)) + (p.c * q.a)) + (p.d * q.b)) ((((p.a * q.d) + (p.b * q.c)) - (p.c * q.b)) + (p.d * q.a)))) : Nat) : Int))))) rfl .nil)), ?_⟩
  rfl
theorem l8_mul (p : RQuat) (q : RQuat) (hp : Qok p) (hq : Qok q) : Takes Tryz.prog 75 [(encQuat p), (encQuat q)] (.tup [(encQuat (qV (qmul p q))), (.val (.int .i64 ((((qC (qmul p q)) : Nat) : Int))))]) := by
  obtain ⟨pa_, pb_, pc_, pd_⟩ := hp.2.bd
  obtain ⟨qa_, qb_, qc_, qd_⟩ := hq.2.bd
  have := sq_b pa_ qa_
  have := sq_b pa_ qb_
  have := sq_b pa_ qc_
  have := sq_b pa_ qd_
  have := sq_b pb_ qa_
  have := sq_b pb_ qb_
  have := sq_b pb_ qc_
  have := sq_b pb_ qd_
  have := sq_b pc_ qa_
  have := sq_b pc_ qb_
  have := sq_b pc_ qc_
  have := sq_b pc_ qd_
  have := sq_b pd_ qa_
  have := sq_b pd_ qb_
  have := sq_b pd_ qc_
  have := sq_b pd_ qd_
  refine fn_intro Tryz.func75 rfl cb75 rfl ?_
  show PWp _ _ _ _ ⟨[(0, (.d (encQuat p))), (1, (.d (encQuat q)))], []⟩
  refine pwp_seq <| kx [(2, (.ref 0 0)), (3, (.ref 1 0)), (4, (.ref 2 0))] [(0, some (bx (encQuat p))), (1, some (bx (encQuat q))), (2, some (bx (encQuat (RQuat.mk 0 0 0 0))))] (zN (oBx 0) <| zN (oBx 1) <| zN (oAl 2 ze28 zo28) <| zM <| zZ) ?_
  refine pwp_seq <| kx [(6, (vi 0))] [] (zR (oLa sh28) <| zR (oLa sh28) <| zE (oCl (l8_both p q hp hq)) <| zM <| zZ) ?_
  refine pwp_seq <| pwp_seq <| kx [(11, (vb false))] [] (zM <| zE (oBk false oNe) <| zZ) ?_
  refine pwp_cond (b := false) (by kernel_rfl) (fun h => by cases h) (fun _ => ?_)
  refine pwp_skip <| pwp_seq <| kx [(5, (vin (qC (RQuat.mk ((((p.a * q.a) - (p.b * q.b)) - (p.c * q.c)) - (p.d * q.d)) ((((p.a * q.b) + (p.b * q.a)) + (p.c * q.d)) - (p.d * q.c)) ((((p.a * q.c) - (p.b * q.d)) + (p.c * q.a)) + (p.d * q.b)) ((((p.a * q.d) + (p.b * q.c)) - (p.c * q.b)) + (p.d * q.a))))))] [(2, some (bx (encQuat (qV (RQuat.mk ((((p.a * q.a) - (p.b * q.b)) - (p.c * q.c)) - (p.d * q.d)) ((((p.a * q.b) + (p.b * q.a)) + (p.c * q.d)) - (p.d * q.c)) ((((p.a * q.c) - (p.b * q.d)) + (p.c * q.a)) + (p.d * q.b)) ((((p.a * q.d) + (p.b * q.c)) - (p.c * q.b)) + (p.d * q.a)))))))] (zE (oFr fo28_0) <| zR (oL1 sh3) <| zE (oFr fo28_0) <| zR (oL1 sh3) <| zE (zMl (p.a * q.a) (hr := by exact (wAny rfl (by simp only [kLo]; omega) (by simp only [kHi]; omega)))) <| zE (oFr fo28_1) <| zR (oL1 sh3) <| zE (oFr fo28_1) <| zR (oL1 sh3) <| zE (zMl (p.b * q.b) (hr := by exact (wAny rfl (by simp only [kLo]; omega) (by simp only [kHi]; omega)))) <| zE (zSb ((p.a * q.a) - (p.b * q.b)) (hr := by exact (wAny rfl (by simp only [kLo]; omega) (by simp only [kHi]; omega)))) <| zE (oFr fo28_2) <| zR (oL1 sh3) <| zE (oFr fo28_2) <| zR (oL1 sh3) <| zE (zMl (p.c * q.c) (hr := by exact (wAny rfl (by simp only [kLo]; omega) (by simp only [kHi]; omega)))) <| zE (zSb (((p.a * q.a) - (p.b * q.b)) - (p.c * q.c)) (hr := by exact (wAny rfl (by simp only [kLo]; omega) (by simp only [kHi]; omega)))) <| zE (oFr fo28_3) <| zR (oL1 sh3) <| zE (oFr fo28_3) <| zR (oL1 sh3) <| zE (zMl (p.d * q.d) (hr := by exact (wAny rfl (by simp only [kLo]; omega) (by simp only [kHi]; omega)))) <| zE (zSb ((((p.a * q.a) - (p.b * q.b)) - (p.c * q.c)) - (p.d * q.d)) (hr := by exact (wAny rfl (by simp only [kLo]; omega) (by simp only [kHi]; omega)))) <| zE (oFr fo28_0) <| zR (oL1 sh3) <| zE (oFr fo28_1) <| zR (oL1 sh3) <| zE (zMl (p.a * q.b) (hr := by exact (wAny rfl (by simp only [kLo]; omega) (by simp only [kHi]; omega)))) <| zE (oFr fo28_1) <| zR (oL1 sh3) <| zE (oFr fo28_0) <| zR (oL1 sh3) <| zE (zMl (p.b * q.a) (hr := by exact (wAny rfl (by simp only [kLo]; omega) (by simp only [kHi]; omega)))) <| zE (zAd ((p.a * q.b) + (p.b * q.a)) (hr := by exact (wAny rfl (by simp only [kLo]; omega) (by simp only [kHi]; omega)))) <| zE (oFr fo28_2) <| zR (oL1 sh3) <| zE (oFr fo28_3) <| zR (oL1 sh3) <| zE (zMl (p.c * q.d) (hr := by exact (wAny rfl (by simp only [kLo]; omega) (by simp only [kHi]; omega)))) <| zE (zAd (((p.a * q.b) + (p.b * q.a)) + (p.c * q.d)) (hr := by exact (wAny rfl (by simp only [kLo]; omega) (by simp only [kHi]; omega)))) <| zE (oFr fo28_3) <| zR (oL1 sh3) <| zE (oFr fo28_2) <| zR (oL1 sh3) <| zE (zMl (p.d * q.c) (hr := by exact (wAny rfl (by simp only [kLo]; omega) (by simp only [kHi]; omega)))) <| zE (zSb ((((p.a * q.b) + (p.b * q.a)) + (p.c * q.d)) - (p.d * q.c)) (hr := by exact (wAny rfl (by simp only [kLo]; omega) (by simp only [kHi]; omega)))) <| zE (oFr fo28_0) <| zR (oL1 sh3) <| zE (oFr fo28_2) <| zR (oL1 sh3) <| zE (zMl (p.a * q.c) (hr := by exact (wAny rfl (by simp only [kLo]; omega) (by simp only [kHi]; omega)))) <| zE (oFr fo28_1) <| zR (oL1 sh3) <| zE (oFr fo28_3) <| zR (oL1 sh3) <| zE (zMl (p.b * q.d) (hr := by exact (wAny rfl (by simp only [kLo]; omega) (by simp only [kHi]; omega)))) <| zE (zSb ((p.a * q.c) - (p.b * q.d)) (hr := by exact (wAny rfl (by simp only [kLo]; omega) (by simp only [kHi]; omega)))) <| zE (oFr fo28_2) <| zR (oL1 sh3) <| zE (oFr fo28_0) <| zR (oL1 sh3) <| zE (zMl (p.c * q.a) (hr := by exact (wAny rfl (by simp only [kLo]; omega) (by simp only [kHi]; omega)))) <| zE (zAd (((p.a * q.c) - (p.b * q.d)) + (p.c * q.a)) (hr := by exact (wAny rfl (by simp only [kLo]; omega) (by simp only [kHi]; omega)))) <| zE (oFr fo28_3) <| zR (oL1 sh3) <| zE (oFr fo28_1) <| zR (oL1 sh3) <| zE (zMl (p.d * q.b) (hr := by exact (wAny rfl (by simp only [kLo]; omega) (by simp only [kHi]; omega)))) <| zE (zAd ((((p.a * q.c) - (p.b * q.d)) + (p.c * q.a)) + (p.d * q.b)) (hr := by exact (wAny rfl (by simp only [kLo]; omega) (by simp only [kHi]; omega)))) <| zE (oFr fo28_0) <| zR (oL1 sh3) <| zE (oFr fo28_3) <| zR (oL1 sh3) <| zE (zMl (p.a * q.d) (hr := by exact (wAny rfl (by simp only [kLo]; omega) (by simp only [kHi]; omega)))) <| zE (oFr fo28_1) <| zR (oL1 sh3) <| zE (oFr fo28_2) <| zR (oL1 sh3) <| zE (zMl (p.b * q.c) (hr := by exact (wAny rfl (by simp only [kLo]; omega) (by simp only [kHi]; omega)))) <| zE (zAd ((p.a * q.d) + (p.b * q.c)) (hr := by exact (wAny rfl (by simp only [kLo]; omega) (by simp only [kHi]; omega)))) <| zE (oFr fo28_2) <| zR (oL1 sh3) <| zE (oFr fo28_1) <| zR (oL1 sh3) <| zE (zMl (p.c * q.b) (hr := by exact (wAny rfl (by simp only [kLo]; omega) (by simp only [kHi]; omega)))) <| zE (zSb (((p.a * q.d) + (p.b * q.c)) - (p.c * q.b)) (hr := by exact (wAny rfl (by simp only [kLo]; omega) (by simp only [kHi]; omega)))) <| zE (oFr fo28_3) <| zR (oL1 sh3) <| zE (oFr fo28_0) <| zR (oL1 sh3) <| zE (zMl (p.d * q.a) (hr := by exact (wAny rfl (by simp only [kLo]; omega) (by simp only [kHi]; omega)))) <| zE (zAd ((((p.a * q.d) + (p.b * q.c)) - (p.c * q.b)) + (p.d * q.a)) (hr := by exact (wAny rfl (by simp only [kLo]; omega) (by simp only [kHi]; omega)))) <| zE (oCl (l8_red ((((p.a * q.a) - (p.b * q.b)) - (p.c * q.c)) - (p.d * q.d)) (by omega) (by omega) ((((p.a * q.b) + (p.b * q.a)) + (p.c * q.d)) - (p.d * q.c)) (by omega) (by omega) ((((p.a * q.c) - (p.b * q.d)) + (p.c * q.a)) + (p.d * q.b)) (by omega) (by omega) ((((p.a * q.d) + (p.b * q.c)) - (p.c * q.b)) + (p.d * q.a)) (by omega) (by omega) (qmul_nz hp.1 hq.1))) <| zE oEx <| zE oEx <| zT (oSt sh28) <| zM <| zZ) ?_
  refine pwp_ret ⟨_, (res_a (cs := (bx (encQuat (qV (RQuat.mk ((((p.a * q.a) - (p.b * q.b)) - (p.c * q.c)) - (p.d * q.d)) ((((p.a * q.b) + (p.b * q.a)) + (p.c * q.d)) - (p.d * q.c)) ((((p.a * q.c) - (p.b * q.d)) + (p.c * q.a)) + (p.d * q.b)) ((((p.a * q.d) + (p.b * q.c)) - (p.c * q.b)) + (p.d * q.a))))))) (d := (encQuat (qV (RQuat.mk ((((p.a * q.a) - (p.b * q.b)) - (p.c * q.c)) - (p.d * q.d)) ((((p.a * q.b) + (p.b * q.a)) + (p.c * q.d)) - (p.d * q.c)) ((((p.a * q.c) - (p.b * q.d)) + (p.c * q.a)) + (p.d * q.b)) ((((p.a * q.d) + (p.b * q.c)) - (p.c * q.b)) + (p.d * q.a)))))) rfl rfl sh28 rfl rfl (.tmp (d := (.val (.int .i64 ((((qC (RQuat.mk ((((p.a * q.a) - (p.b * q.b)) - (p.c * q.c)) - (p.d * q.d)) ((((p.a * q.b) + (p.b * q.a)) + (p.c * q.d)) - (p.d * q.c)) ((((p.a * q.c) - (p.b * q.d)) + (p.c * q.a)) + (p.d * q.b)) ((((p.a * q.d) + (p.b * q.c)) - (p.c * q.b)) + (p.d * q.a)))) : Nat) : Int))))) rfl .nil)), ?_⟩
  rfl
theorem l_chord (p : RQuat) (q : RQuat) (hp : Qok p) (hq : Qok q) : Takes Tryz.prog 61 [(encQuat p), (encQuat q)] (.tup [(encR (ofQ (chQ p q))), (.val (.int .i64 (0)))]) := by
  obtain ⟨pa_, pb_, pc_, pd_⟩ := hp.2.bd
  obtain ⟨qa_, qb_, qc_, qd_⟩ := hq.2.bd
  have := sq_b pa_ qa_
  have := sq_b pb_ qb_
  have := sq_b pc_ qc_
  have := sq_b pd_ qd_
  have hnp : 1 ≤ nq p.a p.b p.c p.d ∧ nq p.a p.b p.c p.d ≤ 9223372036854775807 := qn_bd hp
  have hnq : 1 ≤ nq q.a q.b q.c q.d ∧ nq q.a q.b q.c q.d ≤ 9223372036854775807 := qn_bd hq
  let y1 := (ofQ (Rat.divInt (((((p.a * q.a) + (p.b * q.b)) + (p.c * q.c)) + (p.d * q.d)) * ((((p.a * q.a) + (p.b * q.b)) + (p.c * q.c)) + (p.d * q.d))) ((nq p.a p.b p.c p.d) * (nq q.a q.b q.c q.d))))
  refine fn_intro Tryz.func61 rfl cb61 rfl ?_
  show PWp _ _ _ _ ⟨[(0, (.d (encQuat p))), (1, (.d (encQuat q)))], []⟩
  refine pwp_seq <| kx [(2, (.ref 0 0)), (3, (.ref 1 0)), (4, (.ref 2 0))] [(0, some (bx (encQuat p))), (1, some (bx (encQuat q))), (2, some (bx (encR (RRat.mk (RInt.mk false []) (RInt.mk false [])))))] (zN (oBx 0) <| zN (oBx 1) <| zN (oAl 2 ze51 zo51) <| zM <| zZ) ?_
  refine pwp_seq <| pwp_seq <| kx [(6, (vi 0))] [] (zR (oLa sh28) <| zR (oLa sh28) <| zE (oBs el34 ze28 zo28) <| zE (oCl (l_chkd p q hp hq)) <| zM <| zZ) ?_
  refine pwp_seq <| kx [(15, (vb false))] [] (zM <| zE (oBk false oNe) <| zZ) ?_
  refine pwp_cond (b := false) (by kernel_rfl) (fun h => by cases h) (fun _ => ?_)
  refine pwp_skip <| pwp_seq ?_
  have bn1 : IOk (ofZ ((((p.a * q.a) + (p.b * q.b)) + (p.c * q.c)) + (p.d * q.d))) ((((p.a * q.a) + (p.b * q.b)) + (p.c * q.c)) + (p.d * q.d)) 3 := (iok_int (z := ((((p.a * q.a) + (p.b * q.b)) + (p.c * q.c)) + (p.d * q.d))) (by omega) (by omega))
  refine kx [(7, (.ref 3 0))] [(3, some (bx (encI (ofZ ((((p.a * q.a) + (p.b * q.b)) + (p.c * q.c)) + (p.d * q.d))))))] (zE (oFr fo28_0) <| zR (oL1 sh3) <| zE (oFr fo28_0) <| zR (oL1 sh3) <| zE (zMl (p.a * q.a) (hr := by exact (wAny rfl (by simp only [kLo]; omega) (by simp only [kHi]; omega)))) <| zE (oFr fo28_1) <| zR (oL1 sh3) <| zE (oFr fo28_1) <| zR (oL1 sh3) <| zE (zMl (p.b * q.b) (hr := by exact (wAny rfl (by simp only [kLo]; omega) (by simp only [kHi]; omega)))) <| zE (zAd ((p.a * q.a) + (p.b * q.b)) (hr := by exact (wAny rfl (by simp only [kLo]; omega) (by simp only [kHi]; omega)))) <| zE (oFr fo28_2) <| zR (oL1 sh3) <| zE (oFr fo28_2) <| zR (oL1 sh3) <| zE (zMl (p.c * q.c) (hr := by exact (wAny rfl (by simp only [kLo]; omega) (by simp only [kHi]; omega)))) <| zE (zAd (((p.a * q.a) + (p.b * q.b)) + (p.c * q.c)) (hr := by exact (wAny rfl (by simp only [kLo]; omega) (by simp only [kHi]; omega)))) <| zE (oFr fo28_3) <| zR (oL1 sh3) <| zE (oFr fo28_3) <| zR (oL1 sh3) <| zE (zMl (p.d * q.d) (hr := by exact (wAny rfl (by simp only [kLo]; omega) (by simp only [kHi]; omega)))) <| zE (zAd ((((p.a * q.a) + (p.b * q.b)) + (p.c * q.c)) + (p.d * q.d)) (hr := by exact (wAny rfl (by simp only [kLo]; omega) (by simp only [kHi]; omega)))) <| zE (oCl (t_of ((((p.a * q.a) + (p.b * q.b)) + (p.c * q.c)) + (p.d * q.d)) (by omega) (by omega))) <| zN (oAl 3 ze49 zo49) <| zT (oSt sh49) <| zZ) ?_
  refine pwp_seq ?_
  have bn2 : IOk (ofZ (nq p.a p.b p.c p.d)) (nq p.a p.b p.c p.d) 3 := (iok_int (z := (nq p.a p.b p.c p.d)) (by omega) (by omega))
  have bn3 : IOk (ofZ (nq q.a q.b q.c q.d)) (nq q.a q.b q.c q.d) 3 := (iok_int (z := (nq q.a q.b q.c q.d)) (by omega) (by omega))
  have bn4 : QL (Rat.divInt (((((p.a * q.a) + (p.b * q.b)) + (p.c * q.c)) + (p.d * q.d)) * ((((p.a * q.a) + (p.b * q.b)) + (p.c * q.c)) + (p.d * q.d))) ((nq p.a p.b p.c p.d) * (nq q.a q.b q.c q.d))) 6 := (ql_divInt (n := 6) (Nat.le_trans (IOk.ln (iok_mul (k := 6) bn1 bn1 (by decide))) (by decide)) (Nat.le_trans (IOk.ln (iok_mul (k := 6) bn2 bn3 (by decide))) (by decide)) (by decide))
  refine kd [(8, (.ref 4 0))] [(4, some (bx (encR y1)))] mo (wR (oLa sh49) <| wR (oLa sh49) <| wE (oCl (s_mul bn1 bn1 (by decide) (by decide))) <| wR (oLa sh28) <| wE (oCl (qr_norm p.a p.b p.c p.d (by omega) (by omega) (by omega) (by omega))) <| wE (oCl (t_of (nq p.a p.b p.c p.d) (by omega) (by omega))) <| wR (oLa sh28) <| wE (oCl (qr_norm q.a q.b q.c q.d (by omega) (by omega) (by omega) (by omega))) <| wE (oCl (t_of (nq q.a q.b q.c q.d) (by omega) (by omega))) <| wE (oCl (s_mul bn2 bn3 (by decide) (by decide))) <| wE (oCl (f_newO (ofZ (((((p.a * q.a) + (p.b * q.b)) + (p.c * q.c)) + (p.d * q.d)) * ((((p.a * q.a) + (p.b * q.b)) + (p.c * q.c)) + (p.d * q.d)))) (((((p.a * q.a) + (p.b * q.b)) + (p.c * q.c)) + (p.d * q.d)) * ((((p.a * q.a) + (p.b * q.b)) + (p.c * q.c)) + (p.d * q.d))) (iok_up (iok_mul (k := 6) bn1 bn1 (by decide)) (by decide)) (ofZ ((nq p.a p.b p.c p.d) * (nq q.a q.b q.c q.d))) ((nq p.a p.b p.c p.d) * (nq q.a q.b q.c q.d)) (iok_up (iok_mul (k := 6) bn2 bn3 (by decide)) (by decide)) (Int.mul_ne_zero (qnz_n.1 hp.1) (qnz_n.1 hq.1)))) <| wM <| wE oEx <| wE oEx <| wN (oAl 4 ze51 zo51) <| wT (oSt sh51) <| wM <| wZ) ?_
  refine pwp_seq ?_
  have bn5 : QL ((1 : Int) : Rat) 1 := (ql_int (z := 1) (lenZ_one (by decide)) (by decide))
  refine kd [(5, (vin 0))] [(2, some (bx (encR (ofQ (((1 : Int) : Rat) - (Rat.divInt (((((p.a * q.a) + (p.b * q.b)) + (p.c * q.c)) + (p.d * q.d)) * ((((p.a * q.a) + (p.b * q.b)) + (p.c * q.c)) + (p.d * q.d))) ((nq p.a p.b p.c p.d) * (nq q.a q.b q.c q.d))))))))] mo (wE (oCl (f_whole 1 (by decide) (by decide))) <| wR (oLa sh51) <| wE (oCl (f_sub (ofQ ((1 : Int) : Rat)) y1 ((1 : Int) : Rat) (Rat.divInt (((((p.a * q.a) + (p.b * q.b)) + (p.c * q.c)) + (p.d * q.d)) * ((((p.a * q.a) + (p.b * q.b)) + (p.c * q.c)) + (p.d * q.d))) ((nq p.a p.b p.c p.d) * (nq q.a q.b q.c q.d))) (qok_up (qok_of bn5) (by decide)) (qok_up (qok_of bn4) (by decide)))) <| wT (oSt sh51) <| wM <| wZ) ?_
  refine pwp_ret ⟨_, (res_a (cs := (bx (encR (ofQ (((1 : Int) : Rat) - (Rat.divInt (((((p.a * q.a) + (p.b * q.b)) + (p.c * q.c)) + (p.d * q.d)) * ((((p.a * q.a) + (p.b * q.b)) + (p.c * q.c)) + (p.d * q.d))) ((nq p.a p.b p.c p.d) * (nq q.a q.b q.c q.d)))))))) (d := (encR (ofQ (((1 : Int) : Rat) - (Rat.divInt (((((p.a * q.a) + (p.b * q.b)) + (p.c * q.c)) + (p.d * q.d)) * ((((p.a * q.a) + (p.b * q.b)) + (p.c * q.c)) + (p.d * q.d))) ((nq p.a p.b p.c p.d) * (nq q.a q.b q.c q.d))))))) rfl rfl sh51 rfl rfl (.tmp (d := (.val (.int .i64 (((0 : Nat) : Int))))) rfl .nil)), ?_⟩
  rw [← chQ_di p q]; rfl
end Go.Proofs.YtihgdjljnaekmaaGreat
