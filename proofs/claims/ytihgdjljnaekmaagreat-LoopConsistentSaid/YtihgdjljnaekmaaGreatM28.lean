/- Part 28 of a proof: rules, plain facts, and functions walked. -/
import Derived.Test.YtihgdjljnaekmaaGreatM27
namespace Go.Proofs.YtihgdjljnaekmaaGreat
open Go.Fid
set_option maxRecDepth 4000
set_option linter.unusedVariables false
set_option linter.unusedSimpArgs false
theorem cb33 : callB Tryz.prog 33 = true := by kernel_rfl
theorem cb56 : callB Tryz.prog 56 = true := by kernel_rfl
theorem cb59 : callB Tryz.prog 59 = true := by kernel_rfl
theorem cb79 : callB Tryz.prog 79 = true := by kernel_rfl
theorem cb96 : callB Tryz.prog 96 = true := by kernel_rfl
theorem cb97 : callB Tryz.prog 97 = true := by kernel_rfl
theorem cb102 : callB Tryz.prog 102 = true := by kernel_rfl
theorem cb128 : callB Tryz.prog 128 = true := by kernel_rfl
theorem cb129 : callB Tryz.prog 129 = true := by kernel_rfl
theorem el34 : elemB Tryz.prog 34 = some (28, 4) := by kernel_rfl
theorem ze179 : zeroB Tryz.prog 179 = some [.bool false, .slice none 0 0, .bool false, .slice none 0 0, .bool false, .slice none 0 0, .bool false, .slice none 0 0] := by kernel_rfl
theorem zo179 : ZOk [.bool false, .slice none 0 0, .bool false, .slice none 0 0, .bool false, .slice none 0 0, .bool false, .slice none 0 0] [.val (.bool false), .sl 135 1 [], .val (.bool false), .sl 135 1 [], .val (.bool false), .sl 135 1 [], .val (.bool false), .sl 135 1 []] := by simp [ZOk, Value.oneCell']
theorem l_red (a : Int) (hal : -9223372036854775808 ≤ a) (hah : a ≤ 9223372036854775807) (b : Int) (hbl : -9223372036854775808 ≤ b) (hbh : b ≤ 9223372036854775807) (c : Int) (hcl : -9223372036854775808 ≤ c) (hch : c ≤ 9223372036854775807) (d : Int) (hdl : -9223372036854775808 ≤ d) (hdh : d ≤ 9223372036854775807) (hnz : Qnz (RQuat.mk a b c d)) : Takes Tryz.prog 97 [(.val (.int .i64 (a))), (.val (.int .i64 (b))), (.val (.int .i64 (c))), (.val (.int .i64 (d)))] (.tup [(encQuat (qV (RQuat.mk a b c d))), (.val (.int .i64 ((((qC (RQuat.mk a b c d)) : Nat) : Int))))]) := by
  refine fn_intro Tryz.func97 rfl cb97 rfl ?_
  show PWp _ _ _ _ ⟨[(0, (vi a)), (1, (vi b)), (2, (vi c)), (3, (vi d))], []⟩
  refine pwp_seq <| kx [(8, (.ref 0 0))] [(0, some (bx (encQuat (RQuat.mk 0 0 0 0))))] (zN (oAl 0 ze28 zo28) <| zM <| zZ) ?_
  refine pwp_seq <| kx [(9, (vin (qC (RQuat.mk a b c d))))] [(0, some (bx (encQuat (qV (RQuat.mk a b c d)))))] (zM <| zE (oCl (t_of a (by omega) (by omega))) <| zM <| zE (oCl (t_of b (by omega) (by omega))) <| zM <| zE (oCl (t_of c (by omega) (by omega))) <| zM <| zE (oCl (t_of d (by omega) (by omega))) <| zE (oBf ar179 ze179 zo179) <| zE (oCl (l_prim a b c d (iok_up (iok_int (z := a) (by omega) (by omega)) (by decide)) (iok_up (iok_int (z := b) (by omega) (by omega)) (by decide)) (iok_up (iok_int (z := c) (by omega) (by omega)) (by decide)) (iok_up (iok_int (z := d) (by omega) (by omega)) (by decide)) hnz)) <| zE oEx <| zE oEx <| zT (oSt sh28) <| zM <| zZ) ?_
  refine pwp_ret ⟨_, (res_a (cs := (bx (encQuat (qV (RQuat.mk a b c d))))) (d := (encQuat (qV (RQuat.mk a b c d)))) rfl rfl sh28 rfl rfl (.tmp (d := (.val (.int .i64 ((((qC (RQuat.mk a b c d)) : Nat) : Int))))) rfl .nil)), ?_⟩
  rfl
theorem l8_red (a : Int) (hal : -9223372036854775808 ≤ a) (hah : a ≤ 9223372036854775807) (b : Int) (hbl : -9223372036854775808 ≤ b) (hbh : b ≤ 9223372036854775807) (c : Int) (hcl : -9223372036854775808 ≤ c) (hch : c ≤ 9223372036854775807) (d : Int) (hdl : -9223372036854775808 ≤ d) (hdh : d ≤ 9223372036854775807) (hnz : Qnz (RQuat.mk a b c d)) : Takes Tryz.prog 129 [(.val (.int .i64 (a))), (.val (.int .i64 (b))), (.val (.int .i64 (c))), (.val (.int .i64 (d)))] (.tup [(encQuat (qV (RQuat.mk a b c d))), (.val (.int .i64 ((((qC (RQuat.mk a b c d)) : Nat) : Int))))]) := by
  refine fn_intro Tryz.func129 rfl cb129 rfl ?_
  show PWp _ _ _ _ ⟨[(0, (vi a)), (1, (vi b)), (2, (vi c)), (3, (vi d))], []⟩
  refine pwp_seq <| kx [(8, (.ref 0 0))] [(0, some (bx (encQuat (RQuat.mk 0 0 0 0))))] (zN (oAl 0 ze28 zo28) <| zM <| zZ) ?_
  refine pwp_seq <| kx [(9, (vin (qC (RQuat.mk a b c d))))] [(0, some (bx (encQuat (qV (RQuat.mk a b c d)))))] (zM <| zE (oCl (r_of a (by omega) (by omega))) <| zM <| zE (oCl (r_of b (by omega) (by omega))) <| zM <| zE (oCl (r_of c (by omega) (by omega))) <| zM <| zE (oCl (r_of d (by omega) (by omega))) <| zE (oBs el192 ze49 zo49) <| zE (oCl (l8_prim a b c d (iok_up (iok_int (z := a) (by omega) (by omega)) (by decide)) (iok_up (iok_int (z := b) (by omega) (by omega)) (by decide)) (iok_up (iok_int (z := c) (by omega) (by omega)) (by decide)) (iok_up (iok_int (z := d) (by omega) (by omega)) (by decide)) hnz)) <| zE oEx <| zE oEx <| zT (oSt sh28) <| zM <| zZ) ?_
  refine pwp_ret ⟨_, (res_a (cs := (bx (encQuat (qV (RQuat.mk a b c d))))) (d := (encQuat (qV (RQuat.mk a b c d)))) rfl rfl sh28 rfl rfl (.tmp (d := (.val (.int .i64 ((((qC (RQuat.mk a b c d)) : Nat) : Int))))) rfl .nil)), ?_⟩
  rfl
theorem l_canon (q : RQuat) (hq : Qok q) : Takes Tryz.prog 102 [(encQuat q)] (.tup [(encQuat (qV q)), (.val (.int .i64 ((((qC q) : Nat) : Int))))]) := by
  obtain ⟨qa_, qb_, qc_, qd_⟩ := hq.2.bd
  refine fn_intro Tryz.func102 rfl cb102 rfl ?_
  show PWp _ _ _ _ ⟨[(0, (.d (encQuat q)))], []⟩
  refine pwp_seq <| kx [(1, (.ref 0 0)), (2, (.ref 1 0))] [(0, some (bx (encQuat q))), (1, some (bx (encQuat (RQuat.mk 0 0 0 0))))] (zN (oBx 0) <| zN (oAl 1 ze28 zo28) <| zM <| zZ) ?_
  refine pwp_seq <| pwp_seq <| kx [(4, (vin (rotC q.a q.b q.c q.d)))] [] (zR (oLa sh28) <| zE (oCl (q_chk q.a q.b q.c q.d)) <| zM <| zZ) ?_
  refine pwp_seq <| kx [(8, (vb false))] [] (zM <| zE (oBk false oNe (by exact bne_eq_false_iff_eq.2 (by rw [show (rotC q.a q.b q.c q.d) = 0 from (qok_rot.1 hq)]; rfl))) <| zZ) ?_
  refine pwp_cond (b := false) (by kernel_rfl) (fun h => by cases h) (fun _ => ?_)
  refine pwp_skip <| pwp_seq <| kx [(3, (vin (qC (RQuat.mk q.a q.b q.c q.d))))] [(1, some (bx (encQuat (qV (RQuat.mk q.a q.b q.c q.d)))))] (zE (oFr fo28_0) <| zR (oL1 sh3) <| zE (oFr fo28_1) <| zR (oL1 sh3) <| zE (oFr fo28_2) <| zR (oL1 sh3) <| zE (oFr fo28_3) <| zR (oL1 sh3) <| zE (oCl (l_red q.a (by omega) (by omega) q.b (by omega) (by omega) q.c (by omega) (by omega) q.d (by omega) (by omega) hq.1)) <| zE oEx <| zE oEx <| zT (oSt sh28) <| zM <| zZ) ?_
  refine pwp_ret ⟨_, (res_a (cs := (bx (encQuat (qV (RQuat.mk q.a q.b q.c q.d))))) (d := (encQuat (qV (RQuat.mk q.a q.b q.c q.d)))) rfl rfl sh28 rfl rfl (.tmp (d := (.val (.int .i64 ((((qC (RQuat.mk q.a q.b q.c q.d)) : Nat) : Int))))) rfl .nil)), ?_⟩
  rfl
theorem l_same (p : RQuat) (q : RQuat) (hp : Qok p) (hq : Qok q) : Takes Tryz.prog 59 [(encQuat p), (encQuat q)] (.val (.bool ((sameQ p q)))) := by
  refine fn_intro Tryz.func59 rfl cb59 rfl ?_
  show PWp _ _ _ _ ⟨[(0, (.d (encQuat p))), (1, (.d (encQuat q)))], []⟩
  refine pwp_seq <| kx [(2, (.ref 0 0)), (3, (.ref 1 0))] [(0, some (bx (encQuat p))), (1, some (bx (encQuat q)))] (zN (oBx 0) <| zN (oBx 1) <| zM <| zZ) ?_
  refine pwp_seq <| kx [(5, (.ref 2 0)), (6, (vin (qC p)))] [(2, some (bx (encQuat (qV p))))] (zR (oLa sh28) <| zE (oCl (l_canon p hp)) <| zM <| zE oEx <| zE oEx <| zN (oAl 2 ze28 zo28) <| zT (oSt sh28) <| zM <| zZ) ?_
  refine pwp_seq <| kx [(7, (.ref 3 0)), (8, (vin (qC q)))] [(3, some (bx (encQuat (qV q))))] (zR (oLa sh28) <| zE (oCl (l_canon q hq)) <| zM <| zE oEx <| zE oEx <| zN (oAl 3 ze28 zo28) <| zT (oSt sh28) <| zM <| zZ) ?_
  refine pwp_seq <| kx [(4, (vb (true && (decide ([(qV p).a, (qV p).b, (qV p).c, (qV p).d] = [(qV q).a, (qV q).b, (qV q).c, (qV q).d])))))] [] (zM <| zE (oBk true oEq (by exact beq_iff_eq.2 (by rw [show (qC p) = 0 from (qC_ok hp)]; rfl))) <| zM <| zM <| zE (oBk true oEq (by exact beq_iff_eq.2 (by rw [show (qC q) = 0 from (qC_ok hq)]; rfl))) <| zE oPt <| zM <| zR (oLa sh28) <| zR (oLa sh28) <| zE (oEs eqs28 .i64 [(qV p).a, (qV p).b, (qV p).c, (qV p).d] [(qV q).a, (qV q).b, (qV q).c, (qV q).d]) <| zE oPa <| zM <| zZ) ?_
  refine pwp_ret ⟨_, (.tmp (d := (.val (.bool ((true && (decide ([(qV p).a, (qV p).b, (qV p).c, (qV p).d] = [(qV q).a, (qV q).b, (qV q).c, (qV q).d]))))))) rfl .nil), ?_⟩
  rfl
theorem l8_canon (q : RQuat) (hq : Qok q) : Takes Tryz.prog 79 [(encQuat q)] (.tup [(encQuat (qV q)), (.val (.int .i64 ((((qC q) : Nat) : Int))))]) := by
  obtain ⟨qa_, qb_, qc_, qd_⟩ := hq.2.bd
  refine fn_intro Tryz.func79 rfl cb79 rfl ?_
  show PWp _ _ _ _ ⟨[(0, (.d (encQuat q)))], []⟩
  refine pwp_seq <| kx [(1, (.ref 0 0)), (2, (.ref 1 0))] [(0, some (bx (encQuat q))), (1, some (bx (encQuat (RQuat.mk 0 0 0 0))))] (zN (oBx 0) <| zN (oAl 1 ze28 zo28) <| zM <| zZ) ?_
  refine pwp_seq <| kx [(4, (vin (rotC q.a q.b q.c q.d)))] [] (zR (oLa sh28) <| zE (oCl (qs_chk q.a q.b q.c q.d)) <| zM <| zZ) ?_
  refine pwp_seq <| pwp_seq <| kx [(8, (vb false))] [] (zM <| zE (oBk false oNe (by exact bne_eq_false_iff_eq.2 (by rw [show (rotC q.a q.b q.c q.d) = 0 from (qok_rot.1 hq)]; rfl))) <| zZ) ?_
  refine pwp_cond (b := false) (by kernel_rfl) (fun h => by cases h) (fun _ => ?_)
  refine pwp_skip <| pwp_seq <| kx [(3, (vin (qC (RQuat.mk q.a q.b q.c q.d))))] [(1, some (bx (encQuat (qV (RQuat.mk q.a q.b q.c q.d)))))] (zE (oFr fo28_0) <| zR (oL1 sh3) <| zE (oFr fo28_1) <| zR (oL1 sh3) <| zE (oFr fo28_2) <| zR (oL1 sh3) <| zE (oFr fo28_3) <| zR (oL1 sh3) <| zE (oCl (l8_red q.a (by omega) (by omega) q.b (by omega) (by omega) q.c (by omega) (by omega) q.d (by omega) (by omega) hq.1)) <| zE oEx <| zE oEx <| zT (oSt sh28) <| zM <| zZ) ?_
  refine pwp_ret ⟨_, (res_a (cs := (bx (encQuat (qV (RQuat.mk q.a q.b q.c q.d))))) (d := (encQuat (qV (RQuat.mk q.a q.b q.c q.d)))) rfl rfl sh28 rfl rfl (.tmp (d := (.val (.int .i64 ((((qC (RQuat.mk q.a q.b q.c q.d)) : Nat) : Int))))) rfl .nil)), ?_⟩
  rfl
theorem l_conj (q : RQuat) (hq : Qok q) : Takes Tryz.prog 56 [(encQuat q)] (.tup [(encQuat (qV (qcj q))), (.val (.int .i64 ((((qC (qcj q)) : Nat) : Int))))]) := by
  obtain ⟨qa_, qb_, qc_, qd_⟩ := hq.2.bd
  refine fn_intro Tryz.func56 rfl cb56 rfl ?_
  show PWp _ _ _ _ ⟨[(0, (.d (encQuat q)))], []⟩
  refine pwp_seq <| kx [(1, (.ref 0 0)), (2, (.ref 1 0))] [(0, some (bx (encQuat q))), (1, some (bx (encQuat (RQuat.mk 0 0 0 0))))] (zN (oBx 0) <| zN (oAl 1 ze28 zo28) <| zM <| zZ) ?_
  refine pwp_seq <| pwp_seq <| kx [(4, (vin (rotC q.a q.b q.c q.d)))] [] (zR (oLa sh28) <| zE (oCl (q_chk q.a q.b q.c q.d)) <| zM <| zZ) ?_
  refine pwp_seq <| kx [(8, (vb false))] [] (zM <| zE (oBk false oNe (by exact bne_eq_false_iff_eq.2 (by rw [show (rotC q.a q.b q.c q.d) = 0 from (qok_rot.1 hq)]; rfl))) <| zZ) ?_
  refine pwp_cond (b := false) (by kernel_rfl) (fun h => by cases h) (fun _ => ?_)
  refine pwp_skip <| pwp_seq <| kx [(3, (vin (qC (RQuat.mk q.a (-q.b) (-q.c) (-q.d)))))] [(1, some (bx (encQuat (qV (RQuat.mk q.a (-q.b) (-q.c) (-q.d))))))] (zE (oFr fo28_0) <| zR (oL1 sh3) <| zE (oFr fo28_1) <| zR (oL1 sh3) <| zE (oNg (-q.b) (hr := by exact (wAny (by first | omega | rfl | (dsimp only; omega)) (by simp only [kLo]; omega) (by simp only [kHi]; omega)))) <| zE (oFr fo28_2) <| zR (oL1 sh3) <| zE (oNg (-q.c) (hr := by exact (wAny (by first | omega | rfl | (dsimp only; omega)) (by simp only [kLo]; omega) (by simp only [kHi]; omega)))) <| zE (oFr fo28_3) <| zR (oL1 sh3) <| zE (oNg (-q.d) (hr := by exact (wAny (by first | omega | rfl | (dsimp only; omega)) (by simp only [kLo]; omega) (by simp only [kHi]; omega)))) <| zE (oCl (l_red q.a (by omega) (by omega) (-q.b) (by omega) (by omega) (-q.c) (by omega) (by omega) (-q.d) (by omega) (by omega) (qcj_nz hq.1))) <| zE oEx <| zE oEx <| zT (oSt sh28) <| zM <| zZ) ?_
  refine pwp_ret ⟨_, (res_a (cs := (bx (encQuat (qV (RQuat.mk q.a (-q.b) (-q.c) (-q.d)))))) (d := (encQuat (qV (RQuat.mk q.a (-q.b) (-q.c) (-q.d))))) rfl rfl sh28 rfl rfl (.tmp (d := (.val (.int .i64 ((((qC (RQuat.mk q.a (-q.b) (-q.c) (-q.d))) : Nat) : Int))))) rfl .nil)), ?_⟩
  rfl
theorem l8_conj (q : RQuat) (hq : Qok q) : Takes Tryz.prog 33 [(encQuat q)] (.tup [(encQuat (qV (qcj q))), (.val (.int .i64 ((((qC (qcj q)) : Nat) : Int))))]) := by
  obtain ⟨qa_, qb_, qc_, qd_⟩ := hq.2.bd
  refine fn_intro Tryz.func33 rfl cb33 rfl ?_
  show PWp _ _ _ _ ⟨[(0, (.d (encQuat q)))], []⟩
  refine pwp_seq <| kx [(1, (.ref 0 0)), (2, (.ref 1 0))] [(0, some (bx (encQuat q))), (1, some (bx (encQuat (RQuat.mk 0 0 0 0))))] (zN (oBx 0) <| zN (oAl 1 ze28 zo28) <| zM <| zZ) ?_
  refine pwp_seq <| kx [(3, (vin (qC (RQuat.mk q.a (-q.b) (-q.c) (-q.d)))))] [(1, some (bx (encQuat (qV (RQuat.mk q.a (-q.b) (-q.c) (-q.d))))))] (zE (oFr fo28_0) <| zR (oL1 sh3) <| zE (oFr fo28_1) <| zR (oL1 sh3) <| zE (oNg (-q.b) (hr := by exact (wAny (by first | omega | rfl | (dsimp only; omega)) (by simp only [kLo]; omega) (by simp only [kHi]; omega)))) <| zE (oFr fo28_2) <| zR (oL1 sh3) <| zE (oNg (-q.c) (hr := by exact (wAny (by first | omega | rfl | (dsimp only; omega)) (by simp only [kLo]; omega) (by simp only [kHi]; omega)))) <| zE (oFr fo28_3) <| zR (oL1 sh3) <| zE (oNg (-q.d) (hr := by exact (wAny (by first | omega | rfl | (dsimp only; omega)) (by simp only [kLo]; omega) (by simp only [kHi]; omega)))) <| zE (oBd pl28 ze28 zo28) <| zE (oCl (l8_canon (RQuat.mk q.a (-q.b) (-q.c) (-q.d)) (qcj_ok hq))) <| zE oEx <| zE oEx <| zT (oSt sh28) <| zM <| zZ) ?_
  refine pwp_ret ⟨_, (res_a (cs := (bx (encQuat (qV (RQuat.mk q.a (-q.b) (-q.c) (-q.d)))))) (d := (encQuat (qV (RQuat.mk q.a (-q.b) (-q.c) (-q.d))))) rfl rfl sh28 rfl rfl (.tmp (d := (.val (.int .i64 ((((qC (RQuat.mk q.a (-q.b) (-q.c) (-q.d))) : Nat) : Int))))) rfl .nil)), ?_⟩
  rfl
theorem l_chkd (p q : RQuat) (hp : Qok p) (hq : Qok q) : Takes Tryz.prog 96 [(.sl 28 4 (List.map encQuat [p, q]))] (.val (.int .i64 (0))) := by
  refine fn_intro Tryz.func96 rfl cb96 rfl ?_
  show PWp _ _ _ _ ⟨[(0, (vl 28 4 encQuat [p, q]))], []⟩
  refine pwp_seq <| kx [] [] (zM <| zZ) ?_
  refine pwp_seq <| pwp_seq <| kx [(6, (vl 28 4 encQuat [p, q])), (7, (vin 2)), (8, (vin 0))] [] (zM <| zE (oLn el34 2) <| zM <| zZ) ?_
  refine pwp_block <| pwp_rounds 20 ?_
  refine pwp_round <| pwp_seq <| kx [(9, (vb true))] [] (zE (oBk true oLt) <| zZ) ?_
  refine pwp_seq <| pwp_cond (b := true) (by kernel_rfl) (fun _ => ?_) (fun h => by cases h)
  refine pwp_skip <| pwp_seq <| pwp_block <| pwp_seq <| kx [(4, (.ref 0 0))] [(0, some (bx (encQuat p)))] (zE (oXs el34 0) <| zE (oCa sh28) <| zN (oAl 0 ze28 zo28) <| zT (oSt sh28) <| zZ) ?_
  refine pwp_seq <| kx [(5, (vin (rotC p.a p.b p.c p.d)))] [] (zR (oLa sh28) <| zE (oCl (q_chk p.a p.b p.c p.d)) <| zM <| zZ) ?_
  refine pwp_seq <| kx [(15, (vb false))] [] (zM <| zE (oBk false oNe (by exact bne_eq_false_iff_eq.2 (by rw [show (rotC p.a p.b p.c p.d) = 0 from (qok_rot.1 hp)]; rfl))) <| zZ) ?_
  refine pwp_cond (b := false) (by kernel_rfl) (fun h => by cases h) (fun _ => ?_)
  refine pwp_skip <| kx [(8, (vin 1))] [] (zE (oAd 1 (hr := by decide)) <| zM <| zZ) ?_
  refine pwp_again (SimImp.refl _) ?_
  refine pwp_seq <| kx [(9, (vb true))] [] (zE (oBk true oLt) <| zZ) ?_
  refine pwp_seq <| pwp_cond (b := true) (by kernel_rfl) (fun _ => ?_) (fun h => by cases h)
  refine pwp_skip <| pwp_seq <| pwp_block <| pwp_seq <| kx [(4, (.ref 1 0))] [(1, some (bx (encQuat q)))] (zE (oXs el34 1) <| zE (oCa sh28) <| zN (oAl 1 ze28 zo28) <| zT (oSt sh28) <| zZ) ?_
  refine pwp_seq <| kx [(5, (vin (rotC q.a q.b q.c q.d)))] [] (zR (oLa sh28) <| zE (oCl (q_chk q.a q.b q.c q.d)) <| zM <| zZ) ?_
  refine pwp_seq <| kx [(15, (vb false))] [] (zM <| zE (oBk false oNe (by exact bne_eq_false_iff_eq.2 (by rw [show (rotC q.a q.b q.c q.d) = 0 from (qok_rot.1 hq)]; rfl))) <| zZ) ?_
  refine pwp_cond (b := false) (by kernel_rfl) (fun h => by cases h) (fun _ => ?_)
  refine pwp_skip <| kx [(8, (vin 2))] [] (zE (oAd 2 (hr := by decide)) <| zM <| zZ) ?_
  refine pwp_again (SimImp.refl _) ?_
  refine pwp_seq <| kx [(9, (vb false))] [] (zE (oBk false oLt) <| zZ) ?_
  refine pwp_seq <| pwp_cond (b := false) (by kernel_rfl) (fun h => by cases h) (fun _ => ?_)
  refine pwp_exit <| pwp_seq <| kx [(2, (vin 0))] [] (zM <| zZ) ?_
  refine pwp_ret ⟨_, (.tmp (d := (.val (.int .i64 (((0 : Nat) : Int))))) rfl .nil), ?_⟩
  rfl
theorem l8_both (p : RQuat) (q : RQuat) (hp : Qok p) (hq : Qok q) : Takes Tryz.prog 128 [(encQuat p), (encQuat q)] (.val (.int .i64 (0))) := by
  refine fn_intro Tryz.func128 rfl cb128 rfl ?_
  show PWp _ _ _ _ ⟨[(0, (.d (encQuat p))), (1, (.d (encQuat q)))], []⟩
  refine pwp_seq <| kx [(2, (.ref 0 0)), (3, (.ref 1 0))] [(0, some (bx (encQuat p))), (1, some (bx (encQuat q)))] (zN (oBx 0) <| zN (oBx 1) <| zM <| zZ) ?_
  refine pwp_seq <| kx [(5, (vin (rotC p.a p.b p.c p.d)))] [] (zR (oLa sh28) <| zE (oCl (qs_chk p.a p.b p.c p.d)) <| zM <| zZ) ?_
  refine pwp_seq <| pwp_seq <| kx [(9, (vb false))] [] (zM <| zE (oBk false oNe (by exact bne_eq_false_iff_eq.2 (by rw [show (rotC p.a p.b p.c p.d) = 0 from (qok_rot.1 hp)]; rfl))) <| zZ) ?_
  refine pwp_cond (b := false) (by kernel_rfl) (fun h => by cases h) (fun _ => ?_)
  refine pwp_skip <| pwp_seq <| kx [(4, (vin (rotC q.a q.b q.c q.d)))] [] (zR (oLa sh28) <| zE (oCl (qs_chk q.a q.b q.c q.d)) <| zM <| zZ) ?_
  refine pwp_ret ⟨_, (.tmp (d := (.val (.int .i64 ((((rotC q.a q.b q.c q.d) : Nat) : Int))))) rfl .nil), ?_⟩
  rw [show rotC q.a q.b q.c q.d = 0 from qok_rot.1 hq]; rfl
end Go.Proofs.YtihgdjljnaekmaaGreat
