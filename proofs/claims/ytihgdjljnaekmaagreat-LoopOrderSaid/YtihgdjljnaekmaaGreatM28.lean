/- Part 28 of a proof: rules, plain facts, and functions walked. -/
import Derived.Test.YtihgdjljnaekmaaGreatM27
import Derived.Test.YtihgdjljnaekmaaGreatM13
import Derived.Test.YtihgdjljnaekmaaGreatM4
namespace Go.Proofs.YtihgdjljnaekmaaGreat
open Go.Fid
set_option maxRecDepth 4000
set_option linter.unusedVariables false
set_option linter.unusedSimpArgs false
theorem cb33 : callB Tryz.prog 33 = true := by kernel_rfl
theorem cb56 : callB Tryz.prog 56 = true := by kernel_rfl
theorem cb59 : callB Tryz.prog 59 = true := by kernel_rfl
theorem cb79 : callB Tryz.prog 79 = true := by kernel_rfl
theorem cb96 : callB Tryz.prog 96 = true := by kernel_rfl
theorem cb97 : callB Tryz.prog 97 = true := by kernel_rfl
theorem cb102 : callB Tryz.prog 102 = true := by kernel_rfl
theorem cb129 : callB Tryz.prog 129 = true := by kernel_rfl
theorem el34 : elemB Tryz.prog 34 = some (28, 4) := by kernel_rfl
theorem ze179 : zeroB Tryz.prog 179 = some [.bool false, .slice none 0 0, .bool false, .slice none 0 0, .bool false, .slice none 0 0, .bool false, .slice none 0 0] := by kernel_rfl
theorem zo179 : ZOk [.bool false, .slice none 0 0, .bool false, .slice none 0 0, .bool false, .slice none 0 0, .bool false, .slice none 0 0] [.val (.bool false), .sl 135 1 [], .val (.bool false), .sl 135 1 [], .val (.bool false), .sl 135 1 [], .val (.bool false), .sl 135 1 []] := by simp [ZOk, Value.oneCell']
theorem l_red (a : Int) (hal : -9223372036854775808 ≤ a) (hah : a ≤ 9223372036854775807) (b : Int) (hbl : -9223372036854775808 ≤ b) (hbh : b ≤ 9223372036854775807) (c : Int) (hcl : -9223372036854775808 ≤ c) (hch : c ≤ 9223372036854775807) (d : Int) (hdl : -9223372036854775808 ≤ d) (hdh : d ≤ 9223372036854775807) (hnz : Qnz (RQuat.mk a b c d)) : Takes Tryz.prog 97 [(.val (.int .i64 (a))), (.val (.int .i64 (b))), (.val (.int .i64 (c))), (.val (.int .i64 (d)))] (.tup [(encQuat (qV (RQuat.mk a b c d))), (.val (.int .i64 ((((qC (RQuat.mk a b c d)) : Nat) : Int))))]) := by
  refine fn_intro Tryz.func97 rfl cb97 rfl ?_
  show PWp _ _ _ _ ⟨[(0, (vi a)), (1, (vi b)), (2, (vi c)), (3, (vi d))], []⟩
  refine pwp_seq <| kx [(8, (.ref 0 0))] [(0, some (bx (encQuat (RQuat.mk 0 0 0 0))))] (zN (oAl 0 ze28 zo28) <| zM <| zZ) ?_
  refine pwp_seq <| kx [(9, (vin (qC (RQuat.mk a b c d))))] [(0, some (bx (encQuat (qV (RQuat.mk a b c d)))))] (zM <| zE (oCl (t_of a (by omega) (by omega))) <| zM <| zE (oCl (t_of b (by omega) (by omega))) <| zM <| zE (oCl (t_of c (by omega) (by omega))) <| zM <| zE (oCl (t_of d (by omega) (by omega))) <| zE (oBf ar179 ze179 zo179) <| zE (oCl (l_prim a b c d (iok_up (iok_int (z := a) (by omega) (by omega)) (by decide)) (iok_up (iok_int (z := b) (by omega) (by omega)) (by decide)) (iok_up (iok_int (z := c) (by omega) (by omega)) (by decide)) (iok_up (iok_int (z := d) (by omega) (by omega)) (by decide)) hnz)) <| zE oEx <| zE oEx <| zT (oSt sh28) <| zM <| zZ) ?_
  refine pwp_ret ⟨_, (res_a (cs := (bx (encQuat (qV (RQuat.mk a b c d))))) (d := (encQuat (qV (RQuat.mk a b c d)))) rfl rfl sh28 rfl rfl (.tmp (d := (.val (.int .i64 ((((qC (RQuat.mk a b c d)) : Nat) : Int))))) rfl .nil)), ?_⟩
  rfl
theorem l8_red (a : Int) (hal : -9223372036854775808 ≤ a) (hah : a ≤ 9223372036854775807) (b : Int) (hbl : -9223372036854775808 ≤ b) (hbh : b ≤ 9223372036854775807) (c : Int) (hcl : -9223372036854775808 ≤ c) (hch : c ≤ 9223372036854775807) (d : Int) (hdl : -9223372036854775808 ≤ d) (hdh : d ≤ 9223372036854775807) (hnz : Qnz (RQuat.mk a b c d)) : Takes Tryz.prog 129 [(.val (.int .i64 (a))), (.val (.int .i64 (b))), (.val (.int .i64 (c))), (.val (.int .i64 (d)))] (.tup [(encQuat (qV (RQuat.mk a b c d))), (.val (.int .i64 ((((qC (RQuat.mk a b c d)) : Nat) : Int))))]) := by
  refine fn_intro Tryz.func129 rfl cb129 rfl ?_
  show PWp _ _ _ _ ⟨[(0, (vi a)), (1, (vi b)), (2, (vi c)), (3, (vi d))], []⟩
  refine pwp_seq <| kx [(8, (.ref 0 0))] [(0, some (bx (encQuat (RQuat.mk 0 0 0 0))))] (zN (oAl 0 ze28 zo28) <| zM <| zZ) ?_
  refine pwp_seq <| kx [(9, (vin (qC (RQuat.mk a b c d))))] [(0, some (bx (encQuat (qV (RQuat.mk a b c d)))))] (zM <| zE (oCl (r_of a (by omega) (by omega))) <| zM <| zE (oCl (r_of b (by omega) (by omega))) <| zM <| zE (oCl (r_of c (by omega) (by omega))) <| zM <| zE (oCl (r_of d (by omega) (by omega))) <| zE (oBs el192 ze49 zo49) <| zE (oCl (l8_prim a b c d (iok_up (iok_int (z := a) (by omega) (by omega)) (by decide)) (iok_up (iok_int (z := b) (by omega) (by omega)) (by decide)) (iok_up (iok_int (z := c) (by omega) (by omega)) (by decide)) (iok_up (iok_int (z := d) (by omega) (by omega)) (by decide)) hnz)) <| zE oEx <| zE oEx <| zT (oSt sh28) <| zM <| zZ) ?_
  refine pwp_ret ⟨_, (res_a (cs := (bx (encQuat (qV (RQuat.mk a b c d))))) (d := (encQuat (qV (RQuat.mk a b c d)))) rfl rfl sh28 rfl rfl (.tmp (d := (.val (.int .i64 ((((qC (RQuat.mk a b c d)) : Nat) : Int))))) rfl .nil)), ?_⟩
  rfl
theorem l_canon (q : RQuat) (hq : Qok q) : Takes Tryz.prog 102 [(encQuat q)] (.tup [(encQuat (qV q)), (.val (.int .i64 ((((qC q) : Nat) : Int))))]) := by
  obtain ⟨qa_, qb_, qc_, qd_⟩ := hq.2.bd
  refine fn_intro Tryz.func102 rfl cb102 rfl ?_
  show PWp _ _ _ _ ⟨[(0, (.d (encQuat q)))], []⟩
  refine pwp_seq <| kx [(1, (.ref 0 0)), (2, (.ref 1 0))] [(0, some (bx (encQuat q))), (1, some (bx (encQuat (RQuat.mk 0 0 0 0))))] (zN (oBx 0) <| zN (oAl 1 ze28 zo28) <| zM <| zZ) ?_
  refine pwp_seq <| pwp_seq <| kx [(4, (vin (rotC q.a q.b q.c q.d)))] [] (zR (oLa sh28) <| zE (oCl (q_chk q.a q.b q.c q.d)) <| zM <| zZ) ?_
  refine pwp_seq <| kx [(8, (vb false))] [] (zM <| zE (oBk false oNe (by exact bne_eq_false_iff_eq.2 (by rw [show (rotC q.a q.b q.c q.d) = 0 from (qok_rot.1 hq)]; rfl))) <| zZ) ?_
  refine pwp_cond (b := false) (by kernel_rfl) (fun h => by cases h) (fun _ => ?_)
  refine pwp_skip <| pwp_seq <| kx [(3, (vin (qC (RQuat.mk q.a q.b q.c q.d))))] [(1, some (bx (encQuat (qV (RQuat.mk q.a q.b q.c q.d)))))] (zE (oFr fo28_0) <| zR (oL1 sh3) <| zE (oFr fo28_1) <| zR (oL1 sh3) <| zE (oFr fo28_2) <| zR (oL1 sh3) <| zE (oFr fo28_3) <| zR (oL1 sh3) <| zE (oCl (l_red q.a (by omega) (by omega) q.b (by omega) (by omega) q.c (by omega) (by omega) q.d (by omega) (by omega) hq.1)) <| zE oEx <| zE oEx <| zT (oSt sh28) <| zM <| zZ) ?_
  refine pwp_ret ⟨_, (res_a (cs := (bx (encQuat (qV (RQuat.mk q.a q.b q.c q.d))))) (d := (encQuat (qV (RQuat.mk q.a q.b q.c q.d)))) rfl rfl sh28 rfl rfl (.tmp (d := (.val (.int .i64 ((((qC (RQuat.mk q.a q.b q.c q.d)) : Nat) : Int))))) rfl .nil)), ?_⟩
  rfl
theorem l_same (p : RQuat) (q : RQuat) (hp : Qok p) (hq : Qok q) : Takes Tryz.prog 59 [(encQuat p), (encQuat q)] (.val (.bool ((sameQ p q)))) := by
  refine fn_intro Tryz.func59 rfl cb59 rfl ?_
  show PWp _ _ _ _ ⟨[(0, (.d (encQuat p))), (1, (.d (encQuat q)))], []⟩
  refine pwp_seq <| kx [(2, (.ref 0 0)), (3, (.ref 1 0))] [(0, some (bx (encQuat p))), (1, some (bx (encQuat q)))] (zN (oBx 0) <| zN (oBx 1) <| zM <| zZ) ?_
  refine pwp_seq <| kx [(5, (.ref 2 0)), (6, (vin (qC p)))] [(2, some (bx (encQuat (qV p))))] (zR (oLa sh28) <| zE (oCl (l_canon p hp)) <| zM <| zE oEx <| zE oEx <| zN (oAl 2 ze28 zo28) <| zT (oSt sh28) <| zM <| zZ) ?_
  refine pwp_seq <| kx [(7, (.ref 3 0)), (8, (vin (qC q)))] [(3, some (bx (encQuat (qV q))))] (zR (oLa sh28) <| zE (oCl (l_canon q hq)) <| zM <| zE oEx <| zE oEx <| zN (oAl 3 ze28 zo28) <| zT (oSt sh28) <| zM <| zZ) ?_
  refine pwp_seq <| kx [(4, (vb (true && (decide ([(qV p).a, (qV p).b, (qV p).c, (qV p).d] = [(qV q).a, (qV q).b, (qV q).c, (qV q).d])))))] [] (zM <| zE (oBk true oEq (by exact beq_iff_eq.2 (by rw [show (qC p) = 0 from (qC_ok hp)]; rfl))) <| zM <| zM <| zE (oBk true oEq (by exact beq_iff_eq.2 (by rw [show (qC q) = 0 from (qC_ok hq)]; rfl))) <| zE oPt <| zM <| zR (oLa sh28) <| zR (oLa sh28) <| zE (oEs eqs28 .i64 [(qV p).a, (qV p).b, (qV p).c, (qV p).d] [(qV q).a, (qV q).b, (qV q).c, (qV q).d]) <| zE oPa <| zM <| zZ) ?_
  refine pwp_ret ⟨_, (.tmp (d := (.val (.bool ((true && (decide ([(qV p).a, (qV p).b, (qV p).c, (qV p).d] = [(qV q).a, (qV q).b, (qV q).c, (qV q).d]))))))) rfl .nil), ?_⟩
  rfl
theorem l8_canon (q : RQuat) (hq : Qok q) : Takes Tryz.prog 79 [(encQuat q)] (.tup [(encQuat (qV q)), (.val (.int .i64 ((((qC q) : Nat) : Int))))]) := by
  obtain ⟨qa_, qb_, qc_, qd_⟩ := hq.2.bd
  refine fn_intro Tryz.func79 rfl cb79 rfl ?_
  show PWp _ _ _ _ ⟨[(0, (.d (encQuat q)))], []⟩
  refine pwp_seq <| kx [(1, (.ref 0 0)), (2, (.ref 1 0))] [(0, some (bx (encQuat q))), (1, some (bx (encQuat (RQuat.mk 0 0 0 0))))] (zN (oBx 0) <| zN (oAl 1 ze28 zo28) <| zM <| zZ) ?_
  refine pwp_seq <| kx [(4, (vin (rotC q.a q.b q.c q.d)))] [] (zR (oLa sh28) <| zE (oCl (qs_chk q.a q.b q.c q.d)) <| zM <| zZ) ?_
  refine pwp_seq <| pwp_seq <| kx [(8, (vb false))] [] (zM <| zE (oBk false oNe (by exact bne_eq_false_iff_eq.2 (by rw [show (rotC q.a q.b q.c q.d) = 0 from (qok_rot.1 hq)]; rfl))) <| zZ) ?_
  refine pwp_cond (b := false) (by kernel_rfl) (fun h => by cases h) (fun _ => ?_)
  refine pwp_skip <| pwp_seq <| kx [(3, (vin (qC (RQuat.mk q.a q.b q.c q.d))))] [(1, some (bx (encQuat (qV (RQuat.mk q.a q.b q.c q.d)))))] (zE (oFr fo28_0) <| zR (oL1 sh3) <| zE (oFr fo28_1) <| zR (oL1 sh3) <| zE (oFr fo28_2) <| zR (oL1 sh3) <| zE (oFr fo28_3) <| zR (oL1 sh3) <| zE (oCl (l8_red q.a (by omega) (by omega) q.b (by omega) (by omega) q.c (by omega) (by omega) q.d (by omega) (by omega) hq.1)) <| zE oEx <| zE oEx <| zT (oSt sh28) <| zM <| zZ) ?_
  refine pwp_ret ⟨_, (res_a (cs := (bx (encQuat (qV (RQuat.mk q.a q.b q.c q.d))))) (d := (encQuat (qV (RQuat.mk q.a q.b q.c q.d)))) rfl rfl sh28 rfl rfl (.tmp (d := (.val (.int .i64 ((((qC (RQuat.mk q.a q.b q.c q.d)) : Nat) : Int))))) rfl .nil)), ?_⟩
  rfl
theorem l_conj (q : RQuat) (hq : Qok q) : Takes Tryz.prog 56 [(encQuat q)] (.tup [(encQuat (qV (qcj q))), (.val (.int .i64 ((((qC (qcj q)) : Nat) : Int))))]) := by
  obtain ⟨qa_, qb_, qc_, qd_⟩ := hq.2.bd
  refine fn_intro Tryz.func56 rfl cb56 rfl ?_
  show PWp _ _ _ _ ⟨[(0, (.d (encQuat q)))], []⟩
  refine pwp_seq <| kx [(1, (.ref 0 0)), (2, (.ref 1 0))] [(0, some (bx (encQuat q))), (1, some (bx (encQuat (RQuat.mk 0 0 0 0))))] (zN (oBx 0) <| zN (oAl 1 ze28 zo28) <| zM <| zZ) ?_
  refine pwp_seq <| pwp_seq <| kx [(4, (vin (rotC q.a q.b q.c q.d)))] [] (zR (oLa sh28) <| zE (oCl (q_chk q.a q.b q.c q.d)) <| zM <| zZ) ?_
  refine pwp_seq <| kx [(8, (vb false))] [] (zM <| zE (oBk false oNe (by exact bne_eq_false_iff_eq.2 (by rw [show (rotC q.a q.b q.c q.d) = 0 from (qok_rot.1 hq)]; rfl))) <| zZ) ?_
  refine pwp_cond (b := false) (by kernel_rfl) (fun h => by cases h) (fun _ => ?_)
  refine pwp_skip <| pwp_seq <| kx [(3, (vin (qC (RQuat.mk q.a (-q.b) (-q.c) (-q.d)))))] [(1, some (bx (encQuat (qV (RQuat.mk q.a (-q.b) (-q.c) (-q.d))))))] (zE (oFr fo28_0) <| zR (oL1 sh3) <| zE (oFr fo28_1) <| zR (oL1 sh3) <| zE (oNg (-q.b) (hr := by exact (wAny (by first | omega | rfl | (dsimp only; omega)) (by simp only [kLo]; omega) (by simp only [kHi]; omega)))) <| zE (oFr fo28_2) <| zR (oL1 sh3) <| zE (oNg (-q.c) (hr := by exact (wAny (by first | omega | rfl | (dsimp only; omega)) (by simp only [kLo]; omega) (by simp only [kHi]; omega)))) <| zE (oFr fo28_3) <| zR (oL1 sh3) <| zE (oNg (-q.d) (hr := by exact (wAny (by first | omega | rfl | (dsimp only; omega)) (by simp only [kLo]; omega) (by simp only [kHi]; omega)))) <| zE (oCl (l_red q.a (by omega) (by omega) (-q.b) (by omega) (by omega) (-q.c) (by omega) (by omega) (-q.d) (by omega) (by omega) (qcj_nz hq.1))) <| zE oEx <| zE oEx <| zT (oSt sh28) <| zM <| zZ) ?_
  refine pwp_ret ⟨_, (res_a (cs := (bx (encQuat (qV (RQuat.mk q.a (-q.b) (-q.c) (-q.d)))))) (d := (encQuat (qV (RQuat.mk q.a (-q.b) (-q.c) (-q.d))))) rfl rfl sh28 rfl rfl (.tmp (d := (.val (.int .i64 ((((qC (RQuat.mk q.a (-q.b) (-q.c) (-q.d))) : Nat) : Int))))) rfl .nil)), ?_⟩
  rfl
theorem l8_conj (q : RQuat) (hq : Qok q) : Takes Tryz.prog 33 [(encQuat q)] (.tup [(encQuat (qV (qcj q))), (.val (.int .i64 ((((qC (qcj q)) : Nat) : Int))))]) := by
  obtain ⟨qa_, qb_, qc_, qd_⟩ := hq.2.bd
  refine fn_intro Tryz.func33 rfl cb33 rfl ?_
  show PWp _ _ _ _ ⟨[(0, (.d (encQuat q)))], []⟩
  refine pwp_seq <| kx [(1, (.ref 0 0)), (2, (.ref 1 0))] [(0, some (bx (encQuat q))), (1, some (bx (encQuat (RQuat.mk 0 0 0 0))))] (zN (oBx 0) <| zN (oAl 1 ze28 zo28) <| zM <| zZ) ?_
  refine pwp_seq <| kx [(3, (vin (qC (RQuat.mk q.a (-q.b) (-q.c) (-q.d)))))] [(1, some (bx (encQuat (qV (RQuat.mk q.a (-q.b) (-q.c) (-q.d))))))] (zE (oFr fo28_0) <| zR (oL1 sh3) <| zE (oFr fo28_1) <| zR (oL1 sh3) <| zE (oNg (-q.b) (hr := by exact (wAny (by first | omega | rfl | (dsimp only; omega)) (by simp only [kLo]; omega) (by simp only [kHi]; omega)))) <| zE (oFr fo28_2) <| zR (oL1 sh3) <| zE (oNg (-q.c) (hr := by exact (wAny (by first | omega | rfl | (dsimp only; omega)) (by simp only [kLo]; omega) (by simp only [kHi]; omega)))) <| zE (oFr fo28_3) <| zR (oL1 sh3) <| zE (oNg (-q.d) (hr := by exact (wAny (by first | omega | rfl | (dsimp only; omega)) (by simp only [kLo]; omega) (by simp only [kHi]; omega)))) <| zE (oBd pl28 ze28 zo28) <| zE (oCl (l8_canon (RQuat.mk q.a (-q.b) (-q.c) (-q.d)) (qcj_ok hq))) <| zE oEx <| zE oEx <| zT (oSt sh28) <| zM <| zZ) ?_
  refine pwp_ret ⟨_, (res_a (cs := (bx (encQuat (qV (RQuat.mk q.a (-q.b) (-q.c) (-q.d)))))) (d := (encQuat (qV (RQuat.mk q.a (-q.b) (-q.c) (-q.d))))) rfl rfl sh28 rfl rfl (.tmp (d := (.val (.int .i64 ((((qC (RQuat.mk q.a (-q.b) (-q.c) (-q.d))) : Nat) : Int))))) rfl .nil)), ?_⟩
  rfl
theorem l_chkd (p q : RQuat) (hp : Qok p) (hq : Qok q) : Takes Tryz.prog 96 [(.sl 28 4 (List.map encQuat [p, q]))] (.val (.int .i64 (0))) := by
  refine fn_intro Tryz.func96 rfl cb96 rfl ?_
  show PWp _ _ _ _ ⟨[(0, (vl 28 4 encQuat [p, q]))], []⟩
  refine pwp_seq <| kx [] [] (zM <| zZ) ?_
  refine pwp_seq <| pwp_seq <| kx [(6, (vl 28 4 encQuat [p, q])), (7, (vin 2)), (8, (vin 0))] [] (zM <| zE (oLn el34 2) <| zM <| zZ) ?_
  refine pwp_block <| pwp_rounds 20 ?_
  refine pwp_round <| pwp_seq <| kx [(9, (vb true))] [] (zE (oBk true oLt) <| zZ) ?_
  refine pwp_seq <| pwp_cond (b := true) (by kernel_rfl) (fun _ => ?_) (fun h => by cases h)
  refine pwp_skip <| pwp_seq <| pwp_block <| pwp_seq <| kx [(4, (.ref 0 0))] [(0, some (bx (encQuat p)))] (zE (oXs el34 0) <| zE (oCa sh28) <| zN (oAl 0 ze28 zo28) <| zT (oSt sh28) <| zZ) ?_
  refine pwp_seq <| kx [(5, (vin (rotC p.a p.b p.c p.d)))] [] (zR (oLa sh28) <| zE (oCl (q_chk p.a p.b p.c p.d)) <| zM <| zZ) ?_
  refine pwp_seq <| kx [(15, (vb false))] [] (zM <| zE (oBk false oNe (by exact bne_eq_false_iff_eq.2 (by rw [show (rotC p.a p.b p.c p.d) = 0 from (qok_rot.1 hp)]; rfl))) <| zZ) ?_
  refine pwp_cond (b := false) (by kernel_rfl) (fun h => by cases h) (fun _ => ?_)
  refine pwp_skip <| kx [(8, (vin 1))] [] (zE (oAd 1 (hr := by decide)) <| zM <| zZ) ?_
  refine pwp_again (SimImp.refl _) ?_
  refine pwp_seq <| kx [(9, (vb true))] [] (zE (oBk true oLt) <| zZ) ?_
  refine pwp_seq <| pwp_cond (b := true) (by kernel_rfl) (fun _ => ?_) (fun h => by cases h)
  refine pwp_skip <| pwp_seq <| pwp_block <| pwp_seq <| kx [(4, (.ref 1 0))] [(1, some (bx (encQuat q)))] (zE (oXs el34 1) <| zE (oCa sh28) <| zN (oAl 1 ze28 zo28) <| zT (oSt sh28) <| zZ) ?_
  refine pwp_seq <| kx [(5, (vin (rotC q.a q.b q.c q.d)))] [] (zR (oLa sh28) <| zE (oCl (q_chk q.a q.b q.c q.d)) <| zM <| zZ) ?_
  refine pwp_seq <| kx [(15, (vb false))] [] (zM <| zE (oBk false oNe (by exact bne_eq_false_iff_eq.2 (by rw [show (rotC q.a q.b q.c q.d) = 0 from (qok_rot.1 hq)]; rfl))) <| zZ) ?_
  refine pwp_cond (b := false) (by kernel_rfl) (fun h => by cases h) (fun _ => ?_)
  refine pwp_skip <| kx [(8, (vin 2))] [] (zE (oAd 2 (hr := by decide)) <| zM <| zZ) ?_
  refine pwp_again (SimImp.refl _) ?_
  refine pwp_seq <| kx [(9, (vb false))] [] (zE (oBk false oLt) <| zZ) ?_
  refine pwp_seq <| pwp_cond (b := false) (by kernel_rfl) (fun h => by cases h) (fun _ => ?_)
  refine pwp_exit <| pwp_seq <| kx [(2, (vin 0))] [] (zM <| zZ) ?_
  refine pwp_ret ⟨_, (.tmp (d := (.val (.int .i64 (((0 : Nat) : Int))))) rfl .nil), ?_⟩
  rfl
end Go.Proofs.YtihgdjljnaekmaaGreat
namespace Go.Proofs.YtihgdjljnaekmaaGreat
open Go.Fid
set_option maxRecDepth 4000
set_option linter.unusedVariables false
set_option linter.unusedSimpArgs false
theorem cb50 : callB Tryz.prog 50 = true := by kernel_rfl
theorem cb61 : callB Tryz.prog 61 = true := by kernel_rfl
theorem l_mul (p : RQuat) (q : RQuat) (hp : Qok p) (hq : Qok q) : Takes Tryz.prog 50 [(encQuat p), (encQuat q)] (.tup [(encQuat (qV (qmul p q))), (.val (.int .i64 ((((qC (qmul p q)) : Nat) : Int))))]) := by
  obtain ⟨pa_, pb_, pc_, pd_⟩ := hp.2.bd
  obtain ⟨qa_, qb_, qc_, qd_⟩ := hq.2.bd
  have := sq_b pa_ qa_
  have := sq_b pa_ qb_
  have := sq_b pa_ qc_
  have := sq_b pa_ qd_
  have := sq_b pb_ qa_
  have := sq_b pb_ qb_
  have := sq_b pb_ qc_
  have := sq_b pb_ qd_
  have := sq_b pc_ qa_
  have := sq_b pc_ qb_
  have := sq_b pc_ qc_
  have := sq_b pc_ qd_
  have := sq_b pd_ qa_
  have := sq_b pd_ qb_
  have := sq_b pd_ qc_
  have := sq_b pd_ qd_
  refine fn_intro Tryz.func50 rfl cb50 rfl ?_
  show PWp _ _ _ _ ⟨[(0, (.d (encQuat p))), (1, (.d (encQuat q)))], []⟩
  refine pwp_seq <| kx [(2, (.ref 0 0)), (3, (.ref 1 0)), (4, (.ref 2 0))] [(0, some (bx (encQuat p))), (1, some (bx (encQuat q))), (2, some (bx (encQuat (RQuat.mk 0 0 0 0))))] (zN (oBx 0) <| zN (oBx 1) <| zN (oAl 2 ze28 zo28) <| zM <| zZ) ?_
  refine pwp_seq <| pwp_seq <| kx [(6, (vi 0))] [] (zR (oLa sh28) <| zR (oLa sh28) <| zE (oBs el34 ze28 zo28) <| zE (oCl (l_chkd p q hp hq)) <| zM <| zZ) ?_
  refine pwp_seq <| kx [(12, (vb false))] [] (zM <| zE (oBk false oNe) <| zZ) ?_
  refine pwp_cond (b := false) (by kernel_rfl) (fun h => by cases h) (fun _ => ?_)
  refine pwp_skip <| pwp_seq <| kx [(5, (vin (qC (RQuat.mk ((((p.a * q.a) - (p.b * q.b)) - (p.c * q.c)) - (p.d * q.d)) ((((p.a * q.b) + (p.b * q.a)) + (p.c * q.d)) - (p.d * q.c)) ((((p.a * q.c) - (p.b * q.d)) + (p.c * q.a)) + (p.d * q.b)) ((((p.a * q.d) + (p.b * q.c)) - (p.c * q.b)) + (p.d * q.a))))))] [(2, some (bx (encQuat (qV (RQuat.mk ((((p.a * q.a) - (p.b * q.b)) - (p.c * q.c)) - (p.d * q.d)) ((((p.a * q.b) + (p.b * q.a)) + (p.c * q.d)) - (p.d * q.c)) ((((p.a * q.c) - (p.b * q.d)) + (p.c * q.a)) + (p.d * q.b)) ((((p.a * q.d) + (p.b * q.c)) - (p.c * q.b)) + (p.d * q.a)))))))] (zE (oFr fo28_0) <| zR (oL1 sh3) <| zE (oFr fo28_0) <| zR (oL1 sh3) <| zE (zMl (p.a * q.a) (hr := by exact (wAny rfl (by simp only [kLo]; omega) (by simp only [kHi]; omega)))) <| zE (oFr fo28_1) <| zR (oL1 sh3) <| zE (oFr fo28_1) <| zR (oL1 sh3) <| zE (zMl (p.b * q.b) (hr := by exact (wAny rfl (by simp only [kLo]; omega) (by simp only [kHi]; omega)))) <| zE (zSb ((p.a * q.a) - (p.b * q.b)) (hr := by exact (wAny rfl (by simp only [kLo]; omega) (by simp only [kHi]; omega)))) <| zE (oFr fo28_2) <| zR (oL1 sh3) <| zE (oFr fo28_2) <| zR (oL1 sh3) <| zE (zMl (p.c * q.c) (hr := by exact (wAny rfl (by simp only [kLo]; omega) (by simp only [kHi]; omega)))) <| zE (zSb (((p.a * q.a) - (p.b * q.b)) - (p.c * q.c)) (hr := by exact (wAny rfl (by simp only [kLo]; omega) (by simp only [kHi]; omega)))) <| zE (oFr fo28_3) <| zR (oL1 sh3) <| zE (oFr fo28_3) <| zR (oL1 sh3) <| zE (zMl (p.d * q.d) (hr := by exact (wAny rfl (by simp only [kLo]; omega) (by simp only [kHi]; omega)))) <| zE (zSb ((((p.a * q.a) - (p.b * q.b)) - (p.c * q.c)) - (p.d * q.d)) (hr := by exact (wAny rfl (by simp only [kLo]; omega) (by simp only [kHi]; omega)))) <| zE (oFr fo28_0) <| zR (oL1 sh3) <| zE (oFr fo28_1) <| zR (oL1 sh3) <| zE (zMl (p.a * q.b) (hr := by exact (wAny rfl (by simp only [kLo]; omega) (by simp only [kHi]; omega)))) <| zE (oFr fo28_1) <| zR (oL1 sh3) <| zE (oFr fo28_0) <| zR (oL1 sh3) <| zE (zMl (p.b * q.a) (hr := by exact (wAny rfl (by simp only [kLo]; omega) (by simp only [kHi]; omega)))) <| zE (zAd ((p.a * q.b) + (p.b * q.a)) (hr := by exact (wAny rfl (by simp only [kLo]; omega) (by simp only [kHi]; omega)))) <| zE (oFr fo28_2) <| zR (oL1 sh3) <| zE (oFr fo28_3) <| zR (oL1 sh3) <| zE (zMl (p.c * q.d) (hr := by exact (wAny rfl (by simp only [kLo]; omega) (by simp only [kHi]; omega)))) <| zE (zAd (((p.a * q.b) + (p.b * q.a)) + (p.c * q.d)) (hr := by exact (wAny rfl (by simp only [kLo]; omega) (by simp only [kHi]; omega)))) <| zE (oFr fo28_3) <| zR (oL1 sh3) <| zE (oFr fo28_2) <| zR (oL1 sh3) <| zE (zMl (p.d * q.c) (hr := by exact (wAny rfl (by simp only [kLo]; omega) (by simp only [kHi]; omega)))) <| zE (zSb ((((p.a * q.b) + (p.b * q.a)) + (p.c * q.d)) - (p.d * q.c)) (hr := by exact (wAny rfl (by simp only [kLo]; omega) (by simp only [kHi]; omega)))) <| zE (oFr fo28_0) <| zR (oL1 sh3) <| zE (oFr fo28_2) <| zR (oL1 sh3) <| zE (zMl (p.a * q.c) (hr := by exact (wAny rfl (by simp only [kLo]; omega) (by simp only [kHi]; omega)))) <| zE (oFr fo28_1) <| zR (oL1 sh3) <| zE (oFr fo28_3) <| zR (oL1 sh3) <| zE (zMl (p.b * q.d) (hr := by exact (wAny rfl (by simp only [kLo]; omega) (by simp only [kHi]; omega)))) <| zE (zSb ((p.a * q.c) - (p.b * q.d)) (hr := by exact (wAny rfl (by simp only [kLo]; omega) (by simp only [kHi]; omega)))) <| zE (oFr fo28_2) <| zR (oL1 sh3) <| zE (oFr fo28_0) <| zR (oL1 sh3) <| zE (zMl (p.c * q.a) (hr := by exact (wAny rfl (by simp only [kLo]; omega) (by simp only [kHi]; omega)))) <| zE (zAd (((p.a * q.c) - (p.b * q.d)) + (p.c * q.a)) (hr := by exact (wAny rfl (by simp only [kLo]; omega) (by simp only [kHi]; omega)))) <| zE (oFr fo28_3) <| zR (oL1 sh3) <| zE (oFr fo28_1) <| zR (oL1 sh3) <| zE (zMl (p.d * q.b) (hr := by exact (wAny rfl (by simp only [kLo]; omega) (by simp only [kHi]; omega)))) <| zE (zAd ((((p.a * q.c) - (p.b * q.d)) + (p.c * q.a)) + (p.d * q.b)) (hr := by exact (wAny rfl (by simp only [kLo]; omega) (by simp only [kHi]; omega)))) <| zE (oFr fo28_0) <| zR (oL1 sh3) <| zE (oFr fo28_3) <| zR (oL1 sh3) <| zE (zMl (p.a * q.d) (hr := by exact (wAny rfl (by simp only [kLo]; omega) (by simp only [kHi]; omega)))) <| zE (oFr fo28_1) <| zR (oL1 sh3) <| zE (oFr fo28_2) <| zR (oL1 sh3) <| zE (zMl (p.b * q.c) (hr := by exact (wAny rfl (by simp only [kLo]; omega) (by simp only [kHi]; omega)))) <| zE (zAd ((p.a * q.d) + (p.b * q.c)) (hr := by exact (wAny rfl (by simp only [kLo]; omega) (by simp only [kHi]; omega)))) <| zE (oFr fo28_2) <| zR (oL1 sh3) <| zE (oFr fo28_1) <| zR (oL1 sh3) <| zE (zMl (p.c * q.b) (hr := by exact (wAny rfl (by simp only [kLo]; omega) (by simp only [kHi]; omega)))) <| zE (zSb (((p.a * q.d) + (p.b * q.c)) - (p.c * q.b)) (hr := by exact (wAny rfl (by simp only [kLo]; omega) (by simp only [kHi]; omega)))) <| zE (oFr fo28_3) <| zR (oL1 sh3) <| zE (oFr fo28_0) <| zR (oL1 sh3) <| zE (zMl (p.d * q.a) (hr := by exact (wAny rfl (by simp only [kLo]; omega) (by simp only [kHi]; omega)))) <| zE (zAd ((((p.a * q.d) + (p.b * q.c)) - (p.c * q.b)) + (p.d * q.a)) (hr := by exact (wAny rfl (by simp only [kLo]; omega) (by simp only [kHi]; omega)))) <| zE (oCl (l_red ((((p.a * q.a) - (p.b * q.b)) - (p.c * q.c)) - (p.d * q.d)) (by omega) (by omega) ((((p.a * q.b) + (p.b * q.a)) + (p.c * q.d)) - (p.d * q.c)) (by omega) (by omega) ((((p.a * q.c) - (p.b * q.d)) + (p.c * q.a)) + (p.d * q.b)) (by omega) (by omega) ((((p.a * q.d) + (p.b * q.c)) - (p.c * q.b)) + (p.d * q.a)) (by omega) (by omega) (qmul_nz hp.1 hq.1))) <| zE oEx <| zE oEx <| zT (oSt sh28) <| zM <| zZ) ?_
  refine pwp_ret ⟨_, (res_a (cs := (bx (encQuat (qV (RQuat.mk ((((p.a * q.a) - (p.b * q.b)) - (p.c * q.c)) - (p.d * q.d)) ((((p.a * q.b) + (p.b * q.a)) + (p.c * q.d)) - (p.d * q.c)) ((((p.a * q.c) - (p.b * q.d)) + (p.c * q.a)) + (p.d * q.b)) ((((p.a * q.d) + (p.b * q.c)) - (p.c * q.b)) + (p.d * q.a))))))) (d := (encQuat (qV (RQuat.mk ((((p.a * q.a) - (p.b * q.b)) - (p.c * q.c)) - (p.d * q.d)) ((((p.a * q.b) + (p.b * q.a)) + (p.c * q.d)) - (p.d * q.c)) ((((p.a * q.c) - (p.b * q.d)) + (p.c * q.a)) + (p.d * q.b)) ((((p.a * q.d) + (p.b * q.c)) - (p.c * q.b)) + (p.d * q.a)))))) rfl rfl sh28 rfl rfl (.tmp (d := (.val (.int .i64 ((((qC (RQuat.mk ((((p.a * q.a) - (p.b * q.b)) - (p.c * q.c)) - (p.d * q.d)) ((((p.a * q.b) + (p.b * q.a)) + (p.c * q.d)) - (p.d * q.c)) ((((p.a * q.c) - (p.b * q.d)) + (p.c * q.a)) + (p.d * q.b)) ((((p.a * q.d) + (p.b * q.c)) - (p.c * q.b)) + (p.d * q.a)))) : Nat) : Int))))) rfl .nil)), ?_⟩
  rfl
theorem l_chord (p : RQuat) (q : RQuat) (hp : Qok p) (hq : Qok q) : Takes Tryz.prog 61 [(encQuat p), (encQuat q)] (.tup [(encR (ofQ (chQ p q))), (.val (.int .i64 (0)))]) := by
  obtain ⟨pa_, pb_, pc_, pd_⟩ := hp.2.bd
  obtain ⟨qa_, qb_, qc_, qd_⟩ := hq.2.bd
  have := sq_b pa_ qa_
  have := sq_b pb_ qb_
  have := sq_b pc_ qc_
  have := sq_b pd_ qd_
  have hnp : 1 ≤ nq p.a p.b p.c p.d ∧ nq p.a p.b p.c p.d ≤ 9223372036854775807 := qn_bd hp
  have hnq : 1 ≤ nq q.a q.b q.c q.d ∧ nq q.a q.b q.c q.d ≤ 9223372036854775807 := qn_bd hq
  let y1 := (ofQ (Rat.divInt (((((p.a * q.a) + (p.b * q.b)) + (p.c * q.c)) + (p.d * q.d)) * ((((p.a * q.a) + (p.b * q.b)) + (p.c * q.c)) + (p.d * q.d))) ((nq p.a p.b p.c p.d) * (nq q.a q.b q.c q.d))))
  refine fn_intro Tryz.func61 rfl cb61 rfl ?_
  show PWp _ _ _ _ ⟨[(0, (.d (encQuat p))), (1, (.d (encQuat q)))], []⟩
  refine pwp_seq <| kx [(2, (.ref 0 0)), (3, (.ref 1 0)), (4, (.ref 2 0))] [(0, some (bx (encQuat p))), (1, some (bx (encQuat q))), (2, some (bx (encR (RRat.mk (RInt.mk false []) (RInt.mk false [])))))] (zN (oBx 0) <| zN (oBx 1) <| zN (oAl 2 ze51 zo51) <| zM <| zZ) ?_
  refine pwp_seq <| pwp_seq <| kx [(6, (vi 0))] [] (zR (oLa sh28) <| zR (oLa sh28) <| zE (oBs el34 ze28 zo28) <| zE (oCl (l_chkd p q hp hq)) <| zM <| zZ) ?_
  refine pwp_seq <| kx [(15, (vb false))] [] (zM <| zE (oBk false oNe) <| zZ) ?_
  refine pwp_cond (b := false) (by kernel_rfl) (fun h => by cases h) (fun _ => ?_)
  refine pwp_skip <| pwp_seq ?_
  have bn1 : IOk (ofZ ((((p.a * q.a) + (p.b * q.b)) + (p.c * q.c)) + (p.d * q.d))) ((((p.a * q.a) + (p.b * q.b)) + (p.c * q.c)) + (p.d * q.d)) 3 := (iok_int (z := ((((p.a * q.a) + (p.b * q.b)) + (p.c * q.c)) + (p.d * q.d))) (by omega) (by omega))
  refine kx [(7, (.ref 3 0))] [(3, some (bx (encI (ofZ ((((p.a * q.a) + (p.b * q.b)) + (p.c * q.c)) + (p.d * q.d))))))] (zE (oFr fo28_0) <| zR (oL1 sh3) <| zE (oFr fo28_0) <| zR (oL1 sh3) <| zE (zMl (p.a * q.a) (hr := by exact (wAny rfl (by simp only [kLo]; omega) (by simp only [kHi]; omega)))) <| zE (oFr fo28_1) <| zR (oL1 sh3) <| zE (oFr fo28_1) <| zR (oL1 sh3) <| zE (zMl (p.b * q.b) (hr := by exact (wAny rfl (by simp only [kLo]; omega) (by simp only [kHi]; omega)))) <| zE (zAd ((p.a * q.a) + (p.b * q.b)) (hr := by exact (wAny rfl (by simp only [kLo]; omega) (by simp only [kHi]; omega)))) <| zE (oFr fo28_2) <| zR (oL1 sh3) <| zE (oFr fo28_2) <| zR (oL1 sh3) <| zE (zMl (p.c * q.c) (hr := by exact (wAny rfl (by simp only [kLo]; omega) (by simp only [kHi]; omega)))) <| zE (zAd (((p.a * q.a) + (p.b * q.b)) + (p.c * q.c)) (hr := by exact (wAny rfl (by simp only [kLo]; omega) (by simp only [kHi]; omega)))) <| zE (oFr fo28_3) <| zR (oL1 sh3) <| zE (oFr fo28_3) <| zR (oL1 sh3) <| zE (zMl (p.d * q.d) (hr := by exact (wAny rfl (by simp only [kLo]; omega) (by simp only [kHi]; omega)))) <| zE (zAd ((((p.a * q.a) + (p.b * q.b)) + (p.c * q.c)) + (p.d * q.d)) (hr := by exact (wAny rfl (by simp only [kLo]; omega) (by simp only [kHi]; omega)))) <| zE (oCl (t_of ((((p.a * q.a) + (p.b * q.b)) + (p.c * q.c)) + (p.d * q.d)) (by omega) (by omega))) <| zN (oAl 3 ze49 zo49) <| zT (oSt sh49) <| zZ) ?_
  refine pwp_seq ?_
  have bn2 : IOk (ofZ (nq p.a p.b p.c p.d)) (nq p.a p.b p.c p.d) 3 := (iok_int (z := (nq p.a p.b p.c p.d)) (by omega) (by omega))
  have bn3 : IOk (ofZ (nq q.a q.b q.c q.d)) (nq q.a q.b q.c q.d) 3 := (iok_int (z := (nq q.a q.b q.c q.d)) (by omega) (by omega))
  have bn4 : QL (Rat.divInt (((((p.a * q.a) + (p.b * q.b)) + (p.c * q.c)) + (p.d * q.d)) * ((((p.a * q.a) + (p.b * q.b)) + (p.c * q.c)) + (p.d * q.d))) ((nq p.a p.b p.c p.d) * (nq q.a q.b q.c q.d))) 6 := (ql_divInt (n := 6) (Nat.le_trans (IOk.ln (iok_mul (k := 6) bn1 bn1 (by decide))) (by decide)) (Nat.le_trans (IOk.ln (iok_mul (k := 6) bn2 bn3 (by decide))) (by decide)) (by decide))
  refine kd [(8, (.ref 4 0))] [(4, some (bx (encR y1)))] mo (wR (oLa sh49) <| wR (oLa sh49) <| wE (oCl (s_mul bn1 bn1 (by decide) (by decide))) <| wR (oLa sh28) <| wE (oCl (qr_norm p.a p.b p.c p.d (by omega) (by omega) (by omega) (by omega))) <| wE (oCl (t_of (nq p.a p.b p.c p.d) (by omega) (by omega))) <| wR (oLa sh28) <| wE (oCl (qr_norm q.a q.b q.c q.d (by omega) (by omega) (by omega) (by omega))) <| wE (oCl (t_of (nq q.a q.b q.c q.d) (by omega) (by omega))) <| wE (oCl (s_mul bn2 bn3 (by decide) (by decide))) <| wE (oCl (f_newO (ofZ (((((p.a * q.a) + (p.b * q.b)) + (p.c * q.c)) + (p.d * q.d)) * ((((p.a * q.a) + (p.b * q.b)) + (p.c * q.c)) + (p.d * q.d)))) (((((p.a * q.a) + (p.b * q.b)) + (p.c * q.c)) + (p.d * q.d)) * ((((p.a * q.a) + (p.b * q.b)) + (p.c * q.c)) + (p.d * q.d))) (iok_up (iok_mul (k := 6) bn1 bn1 (by decide)) (by decide)) (ofZ ((nq p.a p.b p.c p.d) * (nq q.a q.b q.c q.d))) ((nq p.a p.b p.c p.d) * (nq q.a q.b q.c q.d)) (iok_up (iok_mul (k := 6) bn2 bn3 (by decide)) (by decide)) (Int.mul_ne_zero (qnz_n.1 hp.1) (qnz_n.1 hq.1)))) <| wM <| wE oEx <| wE oEx <| wN (oAl 4 ze51 zo51) <| wT (oSt sh51) <| wM <| wZ) ?_
  refine pwp_seq ?_
  have bn5 : QL ((1 : Int) : Rat) 1 := (ql_int (z := 1) (lenZ_one (by decide)) (by decide))
  refine kd [(5, (vin 0))] [(2, some (bx (encR (ofQ (((1 : Int) : Rat) - (Rat.divInt (((((p.a * q.a) + (p.b * q.b)) + (p.c * q.c)) + (p.d * q.d)) * ((((p.a * q.a) + (p.b * q.b)) + (p.c * q.c)) + (p.d * q.d))) ((nq p.a p.b p.c p.d) * (nq q.a q.b q.c q.d))))))))] mo (wE (oCl (f_whole 1 (by decide) (by decide))) <| wR (oLa sh51) <| wE (oCl (f_sub (ofQ ((1 : Int) : Rat)) y1 ((1 : Int) : Rat) (Rat.divInt (((((p.a * q.a) + (p.b * q.b)) + (p.c * q.c)) + (p.d * q.d)) * ((((p.a * q.a) + (p.b * q.b)) + (p.c * q.c)) + (p.d * q.d))) ((nq p.a p.b p.c p.d) * (nq q.a q.b q.c q.d))) (qok_up (qok_of bn5) (by decide)) (qok_up (qok_of bn4) (by decide)))) <| wT (oSt sh51) <| wM <| wZ) ?_
  refine pwp_ret ⟨_, (res_a (cs := (bx (encR (ofQ (((1 : Int) : Rat) - (Rat.divInt (((((p.a * q.a) + (p.b * q.b)) + (p.c * q.c)) + (p.d * q.d)) * ((((p.a * q.a) + (p.b * q.b)) + (p.c * q.c)) + (p.d * q.d))) ((nq p.a p.b p.c p.d) * (nq q.a q.b q.c q.d)))))))) (d := (encR (ofQ (((1 : Int) : Rat) - (Rat.divInt (((((p.a * q.a) + (p.b * q.b)) + (p.c * q.c)) + (p.d * q.d)) * ((((p.a * q.a) + (p.b * q.b)) + (p.c * q.c)) + (p.d * q.d))) ((nq p.a p.b p.c p.d) * (nq q.a q.b q.c q.d))))))) rfl rfl sh51 rfl rfl (.tmp (d := (.val (.int .i64 (((0 : Nat) : Int))))) rfl .nil)), ?_⟩
  rw [← chQ_di p q]; rfl
end Go.Proofs.YtihgdjljnaekmaaGreat
set_option linter.unusedVariables false
set_option linter.unusedSimpArgs false
namespace Go.Fid
def rngB (n : Int) (x : REdge) : Bool := ((decide (x.fr < 0) || decide (n ≤ x.fr)) || decide (x.to_ < 0)) || decide (n ≤ x.to_)
theorem rngB_t {n : Int} {x : REdge} (h : rngB n x = true) : edgC n x = 2 := by
  simp only [rngB, Bool.or_eq_true, decide_eq_true_eq] at h
  exact if_neg (by omega)
theorem rngB_f {n : Int} {x : REdge} (h : rngB n x = false) : 0 ≤ x.fr ∧ x.fr < n ∧ 0 ≤ x.to_ ∧ x.to_ < n := by
  simp only [rngB, Bool.or_eq_false_iff, decide_eq_false_iff_not] at h
  omega
theorem edgC_d {n : Int} {x : REdge} (h : rngB n x = false) (e : x.fr = x.to_) : edgC n x = 13 := by
  unfold edgC; rw [if_pos (rngB_f h), if_pos e]
theorem edgC_q {n : Int} {x : REdge} (h : rngB n x = false) (e : x.fr ≠ x.to_) : edgC n x = rotC x.turn.a x.turn.b x.turn.c x.turn.d := by
  unfold edgC; rw [if_pos (rngB_f h), if_neg e]
def limB (n : Int) (es : List REdge) : Bool := (decide (n < 1) || decide (64 < n)) || decide (256 < ((es.length : Nat) : Int))
theorem limB_t {n : Int} {es : List REdge} (h : limB n es = true) : lopC n es = 3 := by
  simp only [limB, Bool.or_eq_true, decide_eq_true_eq] at h
  exact lopC_lim (by omega)
theorem limB_f {n : Int} {es : List REdge} (h : limB n es = false) : lopC n es = edsC n es ∧ 1 ≤ n ∧ n ≤ 64 ∧ es.length ≤ 256 := by
  simp only [limB, Bool.or_eq_false_iff, decide_eq_false_iff_not] at h
  exact ⟨lopC_eds (by omega) (by omega) (by omega), by omega, by omega, by omega⟩
def okUp (n : Int) (es : List REdge) (k : Nat) : Prop := ∀ i, i < k → edgC n (es.getD i e0) = 0
theorem okUp_0 (n : Int) (es : List REdge) : okUp n es 0 := fun i hi => by omega
theorem okUp_s {n : Int} {es : List REdge} {k : Nat} (h : okUp n es k) (h1 : edgC n (es.getD k e0) = 0) : okUp n es (k + 1) := fun i hi => by
  by_cases e : i = k
  · subst e; exact h1
  · exact h i (by omega)
theorem lop_bad {n : Int} {es : List REdge} {k c : Nat} (hl : limB n es = false) (hk : k < es.length) (hv : okUp n es k) (h : edgC n (es.getD k e0) = c) (hc : c ≠ 0) : lopC n es = c := by
  rw [(limB_f hl).1, edsC_at hk hv (by rw [h]; exact hc), h]
theorem lop_end {n : Int} {es : List REdge} {k : Nat} (hl : limB n es = false) (hk : k = es.length) (hv : okUp n es k) : lopC n es = 0 := by
  subst hk; rw [(limB_f hl).1, edsC_end hv]
theorem rot_ne {a : Nat} (h : ((a : Nat) : Int) ≠ 0) : a ≠ 0 := fun e => h (by rw [e]; rfl)
def Tok (es : List REdge) : Prop := ∀ x ∈ es, Qok x.turn
theorem EsOk.tok {n : Nat} {es : List REdge} (h : EsOk n es) : Tok es := fun x hx => (h x hx).q
theorem Tok.at {es : List REdge} (h : Tok es) {k : Nat} (hk : k < es.length) : Qok (es.getD k e0).turn := by
  rw [List.getD_eq_getElem?_getD, List.getElem?_eq_getElem hk]
  exact h _ (List.getElem_mem hk)
def sIx (k : Int) : Nat := if 0 ≤ k then k.toNat else (-1 - k).toNat
def stE (es : List REdge) (k : Int) : REdge := es.getD (sIx k) e0
def stF (es : List REdge) (k : Int) : Int := if 0 ≤ k then (stE es k).fr else (stE es k).to_
def stT (es : List REdge) (k : Int) : Int := if 0 ≤ k then (stE es k).to_ else (stE es k).fr
def stQ (es : List REdge) (k : Int) : RQuat := if 0 ≤ k then (stE es k).turn else qV (qcj (stE es k).turn)
def inE (es : List REdge) (k : Int) : Prop := -((es.length : Nat) : Int) ≤ k ∧ k < ((es.length : Nat) : Int)
instance {es : List REdge} {k : Int} : Decidable (inE es k) := by unfold inE; infer_instance
theorem sIx_lt {es : List REdge} {k : Int} (h : inE es k) : sIx k < es.length := by
  unfold sIx; unfold inE at h; split <;> omega
theorem stQ_ok {es : List REdge} {k : Int} (h : Tok es) (hk : inE es k) : Qok (stQ es k) := by
  have hq := h.at (sIx_lt hk)
  unfold stQ; split
  · exact hq
  · exact qV_ok (qcj_nz hq.1) (qC_cj hq)
theorem st_p {es : List REdge} {k : Int} (h : 0 ≤ k) : stF es k = (es.getD k.toNat e0).fr ∧ stT es k = (es.getD k.toNat e0).to_ ∧ stQ es k = (es.getD k.toNat e0).turn := by
  unfold stF stT stQ stE sIx; exact ⟨by simp only [if_pos h], by simp only [if_pos h], by simp only [if_pos h]⟩
theorem st_n {es : List REdge} {k : Int} (h : ¬ 0 ≤ k) : stF es k = (es.getD (-1 - k).toNat e0).to_ ∧ stT es k = (es.getD (-1 - k).toNat e0).fr ∧ stQ es k = qV (qcj (es.getD (-1 - k).toNat e0).turn) := by
  unfold stF stT stQ stE sIx; exact ⟨by simp only [if_neg h], by simp only [if_neg h], by simp only [if_neg h]⟩
def arV (es : List REdge) (ws : List Int) : Nat → RQuat
  | 0 => q1
  | k + 1 => qV (qmul (stQ es (ws.getD k 0)) (arV es ws k))
def arX (es : List REdge) (ws : List Int) (k : Nat) : Nat := qC (qmul (stQ es (ws.getD k 0)) (arV es ws k))
def arOk (es : List REdge) (ws : List Int) : Prop := ∀ i, i < ws.length → arX es ws i = 0
instance {es : List REdge} {ws : List Int} : Decidable (arOk es ws) := by unfold arOk; infer_instance
def aroV (es : List REdge) (ws : List Int) : RQuat := if arOk es ws then arV es ws ws.length else ⟨0, 0, 0, 0⟩
def aroC (es : List REdge) (ws : List Int) : Nat := if arOk es ws then 0 else 3
def wIn (es : List REdge) (ws : List Int) : Prop := ∀ k ∈ ws, inE es k
theorem wIn_at {es : List REdge} {ws : List Int} (h : wIn es ws) {i : Nat} (hi : i < ws.length) : inE es (ws.getD i 0) := by
  rw [List.getD_eq_getElem?_getD, List.getElem?_eq_getElem hi]
  exact h _ (List.getElem_mem hi)
def arUp (es : List REdge) (ws : List Int) (k : Nat) : Prop := ∀ i, i < k → arX es ws i = 0
theorem arUp_0 (es : List REdge) (ws : List Int) : arUp es ws 0 := fun i hi => by omega
theorem arUp_s {es : List REdge} {ws : List Int} {k : Nat} (h : arUp es ws k) (h1 : arX es ws k = 0) : arUp es ws (k + 1) := fun i hi => by
  by_cases e : i = k
  · subst e; exact h1
  · exact h i (by omega)
theorem arV_ok {es : List REdge} {ws : List Int} (ht : Tok es) (hw : wIn es ws) : ∀ {k : Nat}, k ≤ ws.length → arUp es ws k → Qok (arV es ws k)
  | 0, _, _ => q1_ok
  | k + 1, hk, h => by
    have ih := arV_ok ht hw (k := k) (by omega) (fun i hi => h i (by omega))
    exact qV_ok (qmul_nz (stQ_ok ht (wIn_at hw (by omega))).1 ih.1) (h k (by omega))
theorem aro_no {es : List REdge} {ws : List Int} {k : Nat} (hk : k < ws.length) (h : arX es ws k ≠ 0) : aroV es ws = ⟨0, 0, 0, 0⟩ ∧ aroC es ws = 3 ∧ arX es ws k = 3 := by
  have hn : ¬ arOk es ws := fun e => h (e k hk)
  exact ⟨if_neg hn, if_neg hn, (qC_01 _).resolve_left h⟩
theorem aro_yes {es : List REdge} {ws : List Int} {k : Nat} (hk : k = ws.length) (h : arUp es ws k) : aroV es ws = arV es ws k ∧ aroC es ws = 0 := by
  subst hk
  exact ⟨if_pos h, if_pos h⟩
def clP (es : List REdge) (ws : List Int) : Prop := ∀ i, i < ws.length → stF es (ws.getD ((i + 1) % ws.length) 0) = stT es (ws.getD i 0)
instance {es : List REdge} {ws : List Int} : Decidable (clP es ws) := by unfold clP; infer_instance
theorem wk_nx {i N : Nat} (h : i < N) : ((i + N - 1) % N + 1) % N = i := by
  by_cases h0 : i = 0
  · subst h0
    rw [Nat.zero_add, Nat.mod_eq_of_lt (a := N - 1) (by omega), show N - 1 + 1 = N by omega, Nat.mod_self]
  · rw [show i + N - 1 = (i - 1) + N by omega, Nat.add_mod_right, Nat.mod_eq_of_lt (a := i - 1) (by omega), show i - 1 + 1 = i by omega, Nat.mod_eq_of_lt h]
theorem wk_pv {i N : Nat} (h : i < N) : ((i + 1) % N + N - 1) % N = i := by
  by_cases h0 : i + 1 = N
  · rw [h0, Nat.mod_self, Nat.zero_add, Nat.mod_eq_of_lt (a := N - 1) (by omega)]; omega
  · rw [Nat.mod_eq_of_lt (a := i + 1) (by omega), show i + 1 + N - 1 = i + N by omega, Nat.add_mod_right, Nat.mod_eq_of_lt h]
theorem clP_back {es : List REdge} {ws : List Int} : clP es ws ↔ ∀ i, i < ws.length → stF es (ws.getD i 0) = stT es (ws.getD ((i + ws.length - 1) % ws.length) 0) := by
  constructor
  · intro h i hi
    have h1 := h ((i + ws.length - 1) % ws.length) (Nat.mod_lt _ (by omega))
    rwa [wk_nx hi] at h1
  · intro h i hi
    have h1 := h ((i + 1) % ws.length) (Nat.mod_lt _ (by omega))
    rwa [wk_pv hi] at h1
instance {es : List REdge} {ws : List Int} : Decidable (wIn es ws) := by unfold wIn; infer_instance
def ardC (es : List REdge) (ws : List Int) : Nat := if 256 < ws.length then 9 else if ¬ wIn es ws then 2 else if ¬ clP es ws then 5 else aroC es ws
def ardV (es : List REdge) (ws : List Int) : RQuat := if 256 < ws.length ∨ ¬ wIn es ws ∨ ¬ clP es ws then ⟨0, 0, 0, 0⟩ else aroV es ws
def arnC (n : Int) (es : List REdge) (ws : List Int) : Nat := if lopC n es = 0 then ardC es ws else lopC n es
def arnV (n : Int) (es : List REdge) (ws : List Int) : RQuat := if lopC n es = 0 then ardV es ws else ⟨0, 0, 0, 0⟩
theorem ard_9 {es : List REdge} {ws : List Int} (h : 256 < ws.length) : ardC es ws = 9 ∧ ardV es ws = ⟨0, 0, 0, 0⟩ := ⟨if_pos h, if_pos (.inl h)⟩
theorem ard_2 {es : List REdge} {ws : List Int} (h : ¬ 256 < ws.length) (h2 : ¬ wIn es ws) : ardC es ws = 2 ∧ ardV es ws = ⟨0, 0, 0, 0⟩ := ⟨by unfold ardC; rw [if_neg h, if_pos h2], if_pos (.inr (.inl h2))⟩
theorem ard_5 {es : List REdge} {ws : List Int} (h : ¬ 256 < ws.length) (h2 : wIn es ws) (h3 : ¬ clP es ws) : ardC es ws = 5 ∧ ardV es ws = ⟨0, 0, 0, 0⟩ := ⟨by unfold ardC; rw [if_neg h, if_neg (fun e => e h2), if_pos h3], if_pos (.inr (.inr h3))⟩
theorem ard_y {es : List REdge} {ws : List Int} (h : ¬ 256 < ws.length) (h2 : wIn es ws) (h3 : clP es ws) : ardC es ws = aroC es ws ∧ ardV es ws = aroV es ws := ⟨by unfold ardC; rw [if_neg h, if_neg (fun e => e h2), if_neg (fun e => e h3)], if_neg (fun e => by rcases e with e | e | e; exact h e; exact e h2; exact e h3)⟩
theorem arn_0 {n : Int} {es : List REdge} {ws : List Int} (h : lopC n es = 0) : arnC n es ws = ardC es ws ∧ arnV n es ws = ardV es ws := ⟨if_pos h, if_pos h⟩
theorem arn_n {n : Int} {es : List REdge} {ws : List Int} (h : lopC n es ≠ 0) : arnC n es ws = lopC n es ∧ arnV n es ws = ⟨0, 0, 0, 0⟩ := ⟨if_neg h, if_neg h⟩
def inUp (es : List REdge) (ws : List Int) (k : Nat) : Prop := ∀ i, i < k → inE es (ws.getD i 0)
theorem inUp_s {es : List REdge} {ws : List Int} {k : Nat} (h : inUp es ws k) (h1 : inE es (ws.getD k 0)) : inUp es ws (k + 1) := fun i hi => by
  by_cases e : i = k
  · subst e; exact h1
  · exact h i (by omega)
theorem inUp_end {es : List REdge} {ws : List Int} {k : Nat} (hk : k = ws.length) (h : inUp es ws k) : wIn es ws := by
  subst hk
  intro z hz
  obtain ⟨i, hi, rfl⟩ := List.getElem_of_mem hz
  have := h i hi
  rwa [List.getD_eq_getElem?_getD, List.getElem?_eq_getElem hi] at this
theorem inUp_no {es : List REdge} {ws : List Int} {k : Nat} (hk : k < ws.length) (h : ¬ inE es (ws.getD k 0)) : ¬ wIn es ws := fun e => h (wIn_at e hk)
def exB (es : List REdge) (k : Int) : Bool := decide (((es.length : Nat) : Int) ≤ k) || decide (k < -((es.length : Nat) : Int))
theorem exB_t {es : List REdge} {k : Int} (h : exB es k = true) : ¬ inE es k := by
  simp only [exB, Bool.or_eq_true, decide_eq_true_eq] at h
  unfold inE; omega
theorem exB_f {es : List REdge} {k : Int} (h : exB es k = false) : inE es k := by
  simp only [exB, Bool.or_eq_false_iff, decide_eq_false_iff_not] at h
  unfold inE; omega
def cbUp (es : List REdge) (ws : List Int) (k : Nat) : Prop := ∀ i, i < k → stF es (ws.getD i 0) = stT es (ws.getD ((i + ws.length - 1) % ws.length) 0)
theorem up_s {P : Nat → Prop} {k : Nat} (h : ∀ i, i < k → P i) (h1 : P k) : ∀ i, i < k + 1 → P i := fun i hi => by
  by_cases e : i = k
  · subst e; exact h1
  · exact h i (by omega)
theorem cb_no {es : List REdge} {ws : List Int} {k : Nat} (hk : k < ws.length) (h : stF es (ws.getD k 0) ≠ stT es (ws.getD ((k + ws.length - 1) % ws.length) 0)) : ¬ clP es ws := fun e => h (clP_back.1 e k hk)
end Go.Fid
namespace Go.Fid
def ini (i : Nat) : List Int := (List.range i).map fun k => ((k : Nat) : Int)
theorem ini_len (i : Nat) : (ini i).length = i := by simp [ini]
theorem ini_s (i : Nat) : ini i ++ [((i : Nat) : Int)] = ini (i + 1) := by simp [ini, List.range_succ]
def RlUp (a b : Int) (p : List Int) (seen : List Nat) (q : List Int) : Prop := q.length = p.length ∧ ∀ j, j < p.length → q.getD j 0 = if j ∈ seen then rl a b (p.getD j 0) else p.getD j 0
theorem RlUp_0 (a b : Int) (p : List Int) : RlUp a b p [] p := ⟨rfl, fun j hj => by simp⟩
theorem RlUp_y {a b : Int} {p q : List Int} {seen : List Nat} {k : Nat} (h : RlUp a b p seen q) (hk : k < p.length) (hn : k ∉ seen) (he : q.getD k 0 = b) : RlUp a b p (seen ++ [k]) (q.set k a) := by
  refine ⟨by rw [List.length_set]; exact h.1, fun j hj => ?_⟩
  have h1 := h.2 j hj
  by_cases e : k = j
  · subst e
    rw [List.getD_eq_getElem?_getD, List.getElem?_set_self (by rw [h.1]; exact hk)]
    rw [h1, if_neg hn] at he
    simp only [List.mem_append, List.mem_singleton, or_true, if_true, Option.getD_some]
    unfold rl; rw [if_pos he]
  · rw [List.getD_eq_getElem?_getD, List.getElem?_set_ne e, ← List.getD_eq_getElem?_getD, h1]
    simp only [List.mem_append, List.mem_singleton, show ¬ j = k from fun x => e x.symm, or_false]
theorem RlUp_n {a b : Int} {p q : List Int} {seen : List Nat} {k : Nat} (h : RlUp a b p seen q) (hk : k < p.length) (hn : k ∉ seen) (he : ¬ q.getD k 0 = b) : RlUp a b p (seen ++ [k]) q := by
  refine ⟨h.1, fun j hj => ?_⟩
  have h1 := h.2 j hj
  by_cases e : k = j
  · subst e
    rw [h1, if_neg hn] at he
    rw [h1, if_neg hn]
    simp only [List.mem_append, List.mem_singleton, or_true, if_true]
    unfold rl; rw [if_neg he]
  · rw [h1]
    simp only [List.mem_append, List.mem_singleton, show ¬ j = k from fun x => e x.symm, or_false]
theorem RlUp_end {a b : Int} {p q : List Int} {seen : List Nat} (h : RlUp a b p seen q) (hs : ∀ k, k < q.length → k ∈ seen) : q = mrg false a b p := by
  apply List.ext_getElem?
  intro j
  by_cases hj : j < p.length
  · have h1 := h.2 j hj
    rw [if_pos (hs j (by rw [h.1]; exact hj))] at h1
    have e2 := mrg_get (g := false) (a := a) (b := b) hj
    rw [List.getD_eq_getElem?_getD, List.getElem?_eq_getElem (by rw [h.1]; exact hj)] at h1
    rw [List.getD_eq_getElem?_getD, List.getElem?_eq_getElem (by rw [mrg_len]; exact hj)] at e2
    rw [List.getElem?_eq_getElem (by rw [h.1]; exact hj), List.getElem?_eq_getElem (by rw [mrg_len]; exact hj)]
    simp only [Option.getD_some] at h1 e2
    rw [h1, e2]; rfl
  · rw [List.getElem?_eq_none (by rw [h.1]; omega), List.getElem?_eq_none (by rw [mrg_len]; omega)]
def unseen (n : Nat) (seen : List Nat) : Nat := (List.range n).countP fun j => !(seen.contains j)
theorem unseen_lt {n k : Nat} {seen : List Nat} (hk : k < n) (hn : k ∉ seen) : unseen n (seen ++ [k]) < unseen n seen := by
  unfold unseen
  refine countP_lt (i := k) (fun x _ hx => ?_) (by simpa using hk) (by simpa using hn) (by simp)
  simp only [Bool.not_eq_true', List.contains_eq_mem, decide_eq_false_iff_not, List.mem_append, not_or] at hx ⊢
  exact hx.1
theorem pA_in {n : Nat} {es : List REdge} {k : Nat} (h : EsOk n es) (hk : k < es.length) (g : Bool) : 0 ≤ (es.getD k e0).fr ∧ (es.getD k e0).fr.toNat < (tPar g n es k).length ∧ 0 ≤ (es.getD k e0).to_ ∧ (es.getD k e0).to_.toNat < (tPar g n es k).length := by
  have h1 := eget h hk
  have h2 := h1.f0; have h3 := h1.f1; have h4 := h1.t0; have h5 := h1.t1
  rw [tPar_len]; omega
end Go.Fid
