/- Part 36 of a proof: rules, plain facts, and functions walked. -/
import Derived.Test.YtihgdjljnaekmaaGreatM34
import Derived.Test.YtihgdjljnaekmaaGreatM8
import Derived.Test.YtihgdjljnaekmaaGreatM35
set_option linter.unusedVariables false
set_option linter.unusedSimpArgs false
namespace Go.Fid
open Go.RowKit (Below)
def aggOf (s : Nat) (u : Nat → Value) : Value := .agg ((List.range s).map u).toArray
structure BacksS (P : Program) (fB fI : FuncId) (T : TypeId) (s : Nat) : Prop where
  call : ∀ (a : Option Addr) (len cap : Nat) (w : World), Calls P fB #[.slice a len cap] w fun e w' => e = .returned (.func (.func fI) #[] #[.pointer (some ⟨w.heap.size, 0, none⟩)]) ∧ w' = w.alloc (.cells #[.slice a len cap] T)
  empty : ∀ (N l b cap : Nat) (ao : Option Addr) (J : World → Prop) (W : World), W.cell? ⟨b, 0, none⟩ = some (.slice ao 0 cap) → J W →
    CallsIn Fence.wide (N + 1) P fI #[.func (.yield l) #[] #[], .pointer (some ⟨b, 0, none⟩)] W fun e W' => (∃ v, e = .returned v) ∧ J W'
  rounds : ∀ (N l c b off len cap : Nat) (u : Nat → Nat → Value), (len : Int) ≤ 9223372036854775807 → ∀ (J : Nat → World → Prop) (Jx : World → Prop),
    (∀ j W, J j W → W.cell? ⟨c, 0, none⟩ = some (.slice (some ⟨b, off, none⟩) len cap) ∧ ∀ i, i < len → ∀ r, r < s → W.cell? ⟨b, off + (i * s + r), none⟩ = some (u i r)) →
    (∀ j W, J j W → j < len → YieldAt Fence.wide N P l #[.int .i64 ((len : Int) - 1 - (j : Int)), aggOf s (u (len - 1 - j))] W fun e W' => (e = .returned (.bool true) ∧ J (j + 1) W') ∨ (e = .returned (.bool false) ∧ Jx W')) →
    ∀ W, J 0 W → CallsIn Fence.wide (N + 1) P fI #[.func (.yield l) #[] #[], .pointer (some ⟨c, 0, none⟩)] W fun e W' => (∃ v, e = .returned v) ∧ (J len W' ∨ Jx W')
  enters : ∀ args w, (callFunc fI args).run P w = .ok (.enter fI args) w
section
variable {C : Ctx} {a a' : Act} {w w' : World} {st : PS} {D : DSet} {β : BMap}
variable {P : Program} {n : Fr} {fB fI : FuncId} {T : TypeId} {S : SL} {B : BS} {Q : Exit → PS → Prop} {α : Type}
end
end Go.Fid
set_option linter.unusedVariables false
set_option linter.unusedSimpArgs false
namespace Go.Fid
section
variable {P : Program} {o : Oper} {S : Nat → SV} {x : Operand} {k T s n : Nat} {d : Dat}
theorem oE0 (ho : o.op = .extract x 0 := by exact rfl) (hx : ev S x = .pr k T s n d := by exact rfl) : EOk P o S [] (.own k T s n) :=
  EOk.same fun a w D β hop _ => by
    have hp := hop x (by simp [ho, Op.operands])
    rw [hx] at hp
    obtain ⟨v1, v2, e, h1, h2⟩ := hp
    exact ⟨v1, by simp [execOp, ho, e, Instr.extract], h1⟩
theorem oE1 (ho : o.op = .extract x 1 := by exact rfl) (hx : ev S x = .pr k T s n d := by exact rfl) : EOk P o S [] (.d d) :=
  EOk.same fun a w D β hop _ => by
    have hp := hop x (by simp [ho, Op.operands])
    rw [hx] at hp
    obtain ⟨v1, v2, e, h1, h2⟩ := hp
    exact ⟨v2, by simp [execOp, ho, e, Instr.extract], h2⟩
end
end Go.Fid
namespace Go.Proofs.YtihgdjljnaekmaaGreat
open Go.Fid
set_option maxRecDepth 4000
set_option linter.unusedVariables false
set_option linter.unusedSimpArgs false
theorem ar87 : arrB Tryz.prog 87 = some (2, 5, 1) := by kernel_rfl
theorem by56 : bytesB Tryz.prog 56 = some 48 := by kernel_rfl
theorem cb38 : callB Tryz.prog 38 = true := by kernel_rfl
theorem el86 : elemB Tryz.prog 86 = some (87, 2) := by kernel_rfl
theorem sh5 : shapeB Tryz.prog 5 = some (false, 1) := by kernel_rfl
theorem sh87 : shapeB Tryz.prog 87 = some (true, 2) := by kernel_rfl
theorem un5 : (Tryz.prog.underlying 5).isSome = true := by kernel_rfl
theorem ze87 : zeroB Tryz.prog 87 = some [.int .u8 0, .int .u8 0] := by kernel_rfl
theorem zo87 : ZOk [.int .u8 0, .int .u8 0] [.val (.int .u8 0), .val (.int .u8 0)] := by simp [ZOk, Value.oneCell']
def p2 (x : A2 (Nat)) : Nat × Nat := (x.a0, x.a1)
def mdB (ts : List RQuat) : Bool := !(ts.any qBad)
def mdR (ts : List RQuat) (p : List (A2 (Nat))) : List REdge := if ts.any qBad = true then [] else mdL ts (List.map p2 p)
theorem mem_gd {α : Type} {l : List α} {k : Nat} (d : α) (h : k < l.length) : l.getD k d ∈ l := by
  rw [List.getD_eq_getElem?_getD, List.getElem?_eq_getElem h]; exact List.getElem_mem _
theorem p2_s {p : List (A2 (Nat))} {k : Nat} (d : A2 (Nat)) (h : k < p.length) : List.map p2 (p.take (k + 1)) = List.map p2 (p.take k) ++ [p2 (p.getD k d)] := by
  rw [List.take_succ_eq_append_getElem h, List.map_append, List.getD_eq_getElem?_getD, List.getElem?_eq_getElem h]; rfl
theorem any_s {ts : List RQuat} {k : Nat} (h : k < ts.length) (h1 : (ts.take k).any qBad = false) (h2 : qBad (getQ ts k) = false) : (ts.take (k + 1)).any qBad = false := by
  have e : getQ ts k = ts[k] := by unfold getQ; rw [List.getD_eq_getElem?_getD, List.getElem?_eq_getElem h]; rfl
  rw [List.take_succ_eq_append_getElem h, List.any_append, h1, ← e]; simp [h2]
theorem any_y {ts : List RQuat} {k : Nat} (h : k < ts.length) (h2 : qBad (getQ ts k) = true) : ts.any qBad = true := by
  have e : getQ ts k = ts[k] := by unfold getQ; rw [List.getD_eq_getElem?_getD, List.getElem?_eq_getElem h]; rfl
  exact List.any_eq_true.2 ⟨ts[k], List.getElem_mem _, e ▸ h2⟩
theorem sm_all {ts : List RQuat} (h : ts.any qBad = false) : allSm ts := fun q hq => qBad_f (by have := List.any_eq_false.1 h q hq; simpa using this)
theorem e_made (ts : List RQuat) (p : List (A2 (Nat))) (h1 : 1 ≤ ts.length) (hbt : ts.length ≤ 1000) (hbp : p.length ≤ 1000) (hu : ∀ x ∈ p, x.a0 ≤ 255 ∧ x.a1 ≤ 255) : TakesS Tryz.prog 38 [(vl 28 4 encQuat ts), (vl 87 2 encA87 p)] [] (.pr 0 56 6 ((mdR ts p).length) (.val (.bool ((mdB ts))))) [(0, some (bxs encEdge (mdR ts p)))] := by
  refine fn_introS Tryz.func38 rfl cb38 rfl ?_
  show PWp _ _ _ _ ⟨[(0, (vl 28 4 encQuat ts)), (1, (vl 87 2 encA87 p))], []⟩
  refine pwp_seq <| kx [] [(1, none)] (zO 1 56 6 <| zM <| zZ) ?_
  refine pwp_seq <| kx [(6, (.own 2 56 6 0))] [(2, some (bxs encEdge []))] (zO 2 56 6 <| zZ) ?_
  refine pwp_seq <| pwp_seq <| kx [(15, (vl 28 4 encQuat ts)), (16, (vin ts.length)), (17, (vin 0))] [] (zM <| zE (oLm el34) <| zM <| zZ) ?_
  refine pwp_block <| pwp_loop (α := Nat) (fun k => ⟨[(0, (vl 28 4 encQuat ts)), (1, (vl 87 2 encA87 p)), (6, (.own 2 56 6 0)), (15, (vl 28 4 encQuat ts)), (16, (vin ts.length)), (17, (vin k))], [(2, some (bxs encEdge []))]⟩) (fun k => k ≤ ts.length ∧ (ts.take k).any qBad = false) (fun k => ts.length - k) 0 wk ⟨Nat.zero_le _, rfl⟩ ?_
  rintro k ⟨hk, hv⟩
  refine pwp_seq <| kx [(18, (vb (decide (((k : Nat) : Int) < ((ts.length : Nat) : Int)))))] [] (zE oLt <| zZ) ?_
  refine pwp_seq <| pwp_cond rfl (fun h1 => ?_) (fun h1 => ?_)
  · replace h1 := of_decide_eq_true h1
    refine pwp_skip <| pwp_seq <| pwp_block <| pwp_seq <| kx [(8, (.ref 3 0))] [(3, some (bx (encQuat (ts.getD k (RQuat.mk 0 0 0 0)))))] (zE (oXl el34 k (RQuat.mk 0 0 0 0)) <| zE (oCa sh28) <| zH (oAl 3 ze28 zo28) <| zT (oSt sh28) <| zZ) ?_
    refine pwp_seq <| kx [(63, (vb ((((((((decide (3 < (ts.getD k (RQuat.mk 0 0 0 0)).a) || decide ((ts.getD k (RQuat.mk 0 0 0 0)).a < -3)) || decide (3 < (ts.getD k (RQuat.mk 0 0 0 0)).b)) || decide ((ts.getD k (RQuat.mk 0 0 0 0)).b < -3)) || decide (3 < (ts.getD k (RQuat.mk 0 0 0 0)).c)) || decide ((ts.getD k (RQuat.mk 0 0 0 0)).c < -3)) || decide (3 < (ts.getD k (RQuat.mk 0 0 0 0)).d)) || decide ((ts.getD k (RQuat.mk 0 0 0 0)).d < -3)) || ((((rotC ((ts.getD k (RQuat.mk 0 0 0 0)).a) ((ts.getD k (RQuat.mk 0 0 0 0)).b) ((ts.getD k (RQuat.mk 0 0 0 0)).c) ((ts.getD k (RQuat.mk 0 0 0 0)).d)) : Nat) : Int) != 0))))] [] ?_ ?_
    · refine zE (oFr fo28_0) <| zR (oL1 sh3) <| zE oGt <| zE (oV (vb (decide (3 < (ts.getD k (RQuat.mk 0 0 0 0)).a))) (mv_ok (by kernel_rfl))) <| ?_
      rcases hb2 : (decide (3 < (ts.getD k (RQuat.mk 0 0 0 0)).a)) with _ | _
      · replace hb2 := of_decide_eq_false hb2
        refine zE (oFr fo28_0) <| zR (oL1 sh3) <| zE oLt <| zE oPo <| zE (oV (vb (false || decide ((ts.getD k (RQuat.mk 0 0 0 0)).a < -3))) (mv_ok (by kernel_rfl))) <| ?_
        rcases hb3 : (false || decide ((ts.getD k (RQuat.mk 0 0 0 0)).a < -3)) with _ | _
        · replace hb3 := of_decide_eq_false (p := ((ts.getD k (RQuat.mk 0 0 0 0)).a < -3)) hb3
          refine zE (oFr fo28_1) <| zR (oL1 sh3) <| zE oGt <| zE oPo <| zE (oV (vb (false || decide (3 < (ts.getD k (RQuat.mk 0 0 0 0)).b))) (mv_ok (by kernel_rfl))) <| ?_
          rcases hb4 : (false || decide (3 < (ts.getD k (RQuat.mk 0 0 0 0)).b)) with _ | _
          · replace hb4 := of_decide_eq_false (p := (3 < (ts.getD k (RQuat.mk 0 0 0 0)).b)) hb4
            refine zE (oFr fo28_1) <| zR (oL1 sh3) <| zE oLt <| zE oPo <| zE (oV (vb (false || decide ((ts.getD k (RQuat.mk 0 0 0 0)).b < -3))) (mv_ok (by kernel_rfl))) <| ?_
            rcases hb5 : (false || decide ((ts.getD k (RQuat.mk 0 0 0 0)).b < -3)) with _ | _
            · replace hb5 := of_decide_eq_false (p := ((ts.getD k (RQuat.mk 0 0 0 0)).b < -3)) hb5
              refine zE (oFr fo28_2) <| zR (oL1 sh3) <| zE oGt <| zE oPo <| zE (oV (vb (false || decide (3 < (ts.getD k (RQuat.mk 0 0 0 0)).c))) (mv_ok (by kernel_rfl))) <| ?_
              rcases hb6 : (false || decide (3 < (ts.getD k (RQuat.mk 0 0 0 0)).c)) with _ | _
              · replace hb6 := of_decide_eq_false (p := (3 < (ts.getD k (RQuat.mk 0 0 0 0)).c)) hb6
                refine zE (oFr fo28_2) <| zR (oL1 sh3) <| zE oLt <| zE oPo <| zE (oV (vb (false || decide ((ts.getD k (RQuat.mk 0 0 0 0)).c < -3))) (mv_ok (by kernel_rfl))) <| ?_
                rcases hb7 : (false || decide ((ts.getD k (RQuat.mk 0 0 0 0)).c < -3)) with _ | _
                · replace hb7 := of_decide_eq_false (p := ((ts.getD k (RQuat.mk 0 0 0 0)).c < -3)) hb7
                  refine zE (oFr fo28_3) <| zR (oL1 sh3) <| zE oGt <| zE oPo <| zE (oV (vb (false || decide (3 < (ts.getD k (RQuat.mk 0 0 0 0)).d))) (mv_ok (by kernel_rfl))) <| ?_
                  rcases hb8 : (false || decide (3 < (ts.getD k (RQuat.mk 0 0 0 0)).d)) with _ | _
                  · replace hb8 := of_decide_eq_false (p := (3 < (ts.getD k (RQuat.mk 0 0 0 0)).d)) hb8
                    refine zE (oFr fo28_3) <| zR (oL1 sh3) <| zE oLt <| zE oPo <| zE (oV (vb (false || decide ((ts.getD k (RQuat.mk 0 0 0 0)).d < -3))) (mv_ok (by kernel_rfl))) <| ?_
                    rcases hb9 : (false || decide ((ts.getD k (RQuat.mk 0 0 0 0)).d < -3)) with _ | _
                    · replace hb9 := of_decide_eq_false (p := ((ts.getD k (RQuat.mk 0 0 0 0)).d < -3)) hb9
                      exact zR (oLa sh28) <| zE (oCl (qs_chk ((ts.getD k (RQuat.mk 0 0 0 0)).a) ((ts.getD k (RQuat.mk 0 0 0 0)).b) ((ts.getD k (RQuat.mk 0 0 0 0)).c) ((ts.getD k (RQuat.mk 0 0 0 0)).d))) <| zE oNe <| zE oPo <| zZ
                    · replace hb9 := of_decide_eq_true (p := ((ts.getD k (RQuat.mk 0 0 0 0)).d < -3)) hb9
                      exact zK <| zK <| zK <| zE oPt <| zZ
                  · replace hb8 := of_decide_eq_true (p := (3 < (ts.getD k (RQuat.mk 0 0 0 0)).d)) hb8
                    exact zK <| zK <| zK <| zE oPt <| zM <| zK <| zK <| zK <| zE oPt <| zZ
                · replace hb7 := of_decide_eq_true (p := ((ts.getD k (RQuat.mk 0 0 0 0)).c < -3)) hb7
                  exact zK <| zK <| zK <| zE oPt <| zM <| zK <| zK <| zK <| zE oPt <| zM <| zK <| zK <| zK <| zE oPt <| zZ
              · replace hb6 := of_decide_eq_true (p := (3 < (ts.getD k (RQuat.mk 0 0 0 0)).c)) hb6
                exact zK <| zK <| zK <| zE oPt <| zM <| zK <| zK <| zK <| zE oPt <| zM <| zK <| zK <| zK <| zE oPt <| zM <| zK <| zK <| zK <| zE oPt <| zZ
            · replace hb5 := of_decide_eq_true (p := ((ts.getD k (RQuat.mk 0 0 0 0)).b < -3)) hb5
              exact zK <| zK <| zK <| zE oPt <| zM <| zK <| zK <| zK <| zE oPt <| zM <| zK <| zK <| zK <| zE oPt <| zM <| zK <| zK <| zK <| zE oPt <| zM <| zK <| zK <| zK <| zE oPt <| zZ
          · replace hb4 := of_decide_eq_true (p := (3 < (ts.getD k (RQuat.mk 0 0 0 0)).b)) hb4
            exact zK <| zK <| zK <| zE oPt <| zM <| zK <| zK <| zK <| zE oPt <| zM <| zK <| zK <| zK <| zE oPt <| zM <| zK <| zK <| zK <| zE oPt <| zM <| zK <| zK <| zK <| zE oPt <| zM <| zK <| zK <| zK <| zE oPt <| zZ
        · replace hb3 := of_decide_eq_true (p := ((ts.getD k (RQuat.mk 0 0 0 0)).a < -3)) hb3
          exact zK <| zK <| zK <| zE oPt <| zM <| zK <| zK <| zK <| zE oPt <| zM <| zK <| zK <| zK <| zE oPt <| zM <| zK <| zK <| zK <| zE oPt <| zM <| zK <| zK <| zK <| zE oPt <| zM <| zK <| zK <| zK <| zE oPt <| zM <| zK <| zK <| zK <| zE oPt <| zZ
      · replace hb2 := of_decide_eq_true hb2
        exact zK <| zK <| zK <| zE oPt <| zM <| zK <| zK <| zK <| zE oPt <| zM <| zK <| zK <| zK <| zE oPt <| zM <| zK <| zK <| zK <| zE oPt <| zM <| zK <| zK <| zK <| zE oPt <| zM <| zK <| zK <| zK <| zE oPt <| zM <| zK <| zK <| zK <| zE oPt <| zM <| zK <| zK <| zK <| zE oPt <| zZ
    refine pwp_cond rfl (fun h10 => ?_) (fun h10 => ?_)
    · refine pwp_seq <| kx [(4, (.own 4 56 6 0)), (5, (vb false))] [(4, some (bxs encEdge []))] (zO 4 56 6 <| zM <| zZ) ?_
      refine pwp_sim (wk (l := [(4, (.own 4 56 6 0)), (5, (vb false))]) (b := [(4, some (bxs encEdge []))])) ?_
      refine pwp_sim (sim_ren (S' := [(4, (.own 0 56 6 0)), (5, (vb false))]) (B' := [(0, some (bxs encEdge []))]) 0 4) ?_
      have hy : ts.any qBad = true := any_y (by omega) h10
      rw [show mdR ts p = [] from if_pos hy, show mdB ts = false by unfold mdB; rw [hy]; rfl]
      refine pwp_ret ⟨bget_sub (by kernel_rfl), refs_ok (by kernel_rfl), .inr (.inr ⟨4, 5, 0, 56, 6, 0, (.val (.bool (false))), rfl, rfl, rfl, ?_⟩)⟩
      rfl
    · refine pwp_skip <| kx [(17, (vin (k + 1)))] [] (zE (oAd (k + 1)) <| zM <| zZ) ?_
      exact ⟨(k + 1), wk, ⟨by omega, any_s (by omega) hv h10⟩, (by omega)⟩
  · replace h1 := of_decide_eq_false h1
    have hany : ts.any qBad = false := by rw [show k = ts.length by omega, List.take_length] at hv; exact hv
    have hsm := sm_all hany
    refine pwp_exit <| pwp_seq <| pwp_seq <| kx [(65, (vl 87 2 encA87 p)), (66, (vin p.length)), (67, (vin 0))] [] (zM <| zE (oLm el86) <| zM <| zZ) ?_
    refine pwp_block <| pwp_loop (α := Nat × List REdge) (fun (k, out) => ⟨[(0, (vl 28 4 encQuat ts)), (6, (.own 2 56 6 out.length)), (65, (vl 87 2 encA87 p)), (66, (vin p.length)), (67, (vin k))], [(2, some (bxs encEdge out))]⟩) (fun (k, out) => k ≤ p.length ∧ out = mdL ts (List.map p2 (p.take k))) (fun (k, out) => p.length - k) (0, []) wk ⟨Nat.zero_le _, rfl⟩ ?_
    rintro ⟨k, out⟩ ⟨hk, ho⟩
    have hol : out.length ≤ k := by rw [ho]; have := md_len (ts := ts) (l := List.map p2 (p.take k)); have := List.length_take_le k p; rw [List.length_map] at *; omega
    have hma := Nat.mod_lt (p.getD k (A2.mk 0 0)).a0 (show 0 < ts.length by omega)
    have hmb := Nat.mod_lt (p.getD k (A2.mk 0 0)).a1 (show 0 < ts.length by omega)
    have hsa := sm_at hsm hma
    have hsb := sm_at hsm hmb
    refine pwp_seq <| kx [(68, (vb (decide (((k : Nat) : Int) < ((p.length : Nat) : Int)))))] [] (zE oLt <| zZ) ?_
    refine pwp_seq <| pwp_cond rfl (fun h11 => ?_) (fun h11 => ?_)
    · replace h11 := of_decide_eq_true h11
      have hux := hu _ (mem_gd (l := p) (k := k) (A2.mk 0 0) (by omega))
      refine pwp_skip <| pwp_seq <| pwp_block <| pwp_seq <| kx [(10, (.ref 5 0))] [(5, some (bx (encA87 (p.getD k (A2.mk 0 0)))))] (zE (oXl el86 k ((A2.mk 0 0) : A2 (Nat))) <| zE (oCa sh87) <| zH (oAl 5 ze87 zo87) <| zT (oSt sh87) <| zZ) ?_
      refine pwp_seq <| kd [(11, (vin ((p.getD k (A2.mk 0 0)).a0 % ts.length))), (12, (vin ((p.getD k (A2.mk 0 0)).a1 % ts.length)))] [] mo (wE (oXr ar87 0) <| wR (oL1 sh5) <| wE (oCv un5 in3 ((p.getD k (A2.mk 0 0)).a0)) <| wM <| wE (oLm el34) <| wE (oRe ((p.getD k (A2.mk 0 0)).a0 % ts.length)) <| wE (oXr ar87 1) <| wR (oL1 sh5) <| wE (oCv un5 in3 ((p.getD k (A2.mk 0 0)).a1)) <| wM <| wE (oLm el34) <| wE (oRe ((p.getD k (A2.mk 0 0)).a1 % ts.length)) <| wM <| wM <| wZ) ?_
      refine pwp_seq <| pwp_seq <| kx [(85, (vb (((((p.getD k (A2.mk 0 0)).a0 % ts.length) : Nat) : Int) == ((((p.getD k (A2.mk 0 0)).a1 % ts.length) : Nat) : Int))))] [] (zM <| zM <| zE oEq <| zZ) ?_
      refine pwp_cond rfl (fun h12 => ?_) (fun h12 => ?_)
      · replace h12 := eq_of_beq h12
        refine pwp_exit <| kx [(67, (vin (k + 1)))] [] (zE (oAd (k + 1)) <| zM <| zZ) ?_
        exact ⟨(k + 1, out), wk, ⟨by omega, by rw [p2_s (A2.mk 0 0) (by omega), md_n (show (p2 (p.getD k (A2.mk 0 0))).1 % ts.length = (p2 (p.getD k (A2.mk 0 0))).2 % ts.length by show ((p.getD k (A2.mk 0 0)).a0 % ts.length) = ((p.getD k (A2.mk 0 0)).a1 % ts.length); omega)]; exact ho⟩, (by first | omega | (dsimp only; omega))⟩
      · replace h12 := ne_of_beq_false h12
        refine pwp_skip <| pwp_seq <| kd [(13, (.ref 6 0)), (14, (vin (qC (qmul (qV (qcj (ts.getD ((p.getD k (A2.mk 0 0)).a1 % ts.length) (RQuat.mk 0 0 0 0)))) (ts.getD ((p.getD k (A2.mk 0 0)).a0 % ts.length) (RQuat.mk 0 0 0 0))))))] [(6, some (bx (encQuat (qV (qmul (qV (qcj (ts.getD ((p.getD k (A2.mk 0 0)).a1 % ts.length) (RQuat.mk 0 0 0 0)))) (ts.getD ((p.getD k (A2.mk 0 0)).a0 % ts.length) (RQuat.mk 0 0 0 0)))))))] mo (wM <| wM <| wE (oXl el34 ((p.getD k (A2.mk 0 0)).a1 % ts.length) (RQuat.mk 0 0 0 0)) <| wE (oCa sh28) <| wM <| wM <| wE (oXl el34 ((p.getD k (A2.mk 0 0)).a0 % ts.length) (RQuat.mk 0 0 0 0)) <| wE (oCa sh28) <| wE (oCl (l8_under (ts.getD ((p.getD k (A2.mk 0 0)).a1 % ts.length) (RQuat.mk 0 0 0 0)) (ts.getD ((p.getD k (A2.mk 0 0)).a0 % ts.length) (RQuat.mk 0 0 0 0)) hsb.2 hsa.2)) <| wM <| wE oEx <| wE oEx <| wH (hc := by kernel_rfl) (oAl 6 ze28 zo28) <| wT (oSt sh28) <| wM <| wZ) ?_
        refine pwp_seq <| pwp_seq <| kx [(99, (vb false))] [] (zM <| zE (oBk false oNe (by exact bne_eq_false_iff_eq.2 (by rw [show (qC (qmul (qV (qcj (ts.getD ((p.getD k (A2.mk 0 0)).a1 % ts.length) (RQuat.mk 0 0 0 0)))) (ts.getD ((p.getD k (A2.mk 0 0)).a0 % ts.length) (RQuat.mk 0 0 0 0)))) = 0 from (sm_btw hsb hsa)]; rfl))) <| zZ) ?_
        refine pwp_cond (b := false) (by kernel_rfl) (fun h => by cases h) (fun _ => ?_)
        refine pwp_skip <| kf [(6, (.own 2 56 6 ((out ++ [(REdge.mk ((((p.getD k (A2.mk 0 0)).a0 % ts.length) : Nat) : Int) ((((p.getD k (A2.mk 0 0)).a1 % ts.length) : Nat) : Int) (qV (qmul (qV (qcj (ts.getD ((p.getD k (A2.mk 0 0)).a1 % ts.length) (RQuat.mk 0 0 0 0)))) (ts.getD ((p.getD k (A2.mk 0 0)).a0 % ts.length) (RQuat.mk 0 0 0 0)))))]).length)))] [(2, some (bxs encEdge (out ++ [(REdge.mk ((((p.getD k (A2.mk 0 0)).a0 % ts.length) : Nat) : Int) ((((p.getD k (A2.mk 0 0)).a1 % ts.length) : Nat) : Int) (qV (qmul (qV (qcj (ts.getD ((p.getD k (A2.mk 0 0)).a1 % ts.length) (RQuat.mk 0 0 0 0)))) (ts.getD ((p.getD k (A2.mk 0 0)).a0 % ts.length) (RQuat.mk 0 0 0 0)))))])))] (zM <| zM <| zM <| zR (oLa sh28) <| zE (oBd pl56 ze56 zo56) <| zE (oBs el39 ze56 zo56) <| zAS encEdge out [(REdge.mk ((((p.getD k (A2.mk 0 0)).a0 % ts.length) : Nat) : Int) ((((p.getD k (A2.mk 0 0)).a1 % ts.length) : Nat) : Int) (qV (qmul (qV (qcj (ts.getD ((p.getD k (A2.mk 0 0)).a1 % ts.length) (RQuat.mk 0 0 0 0)))) (ts.getD ((p.getD k (A2.mk 0 0)).a0 % ts.length) (RQuat.mk 0 0 0 0)))))] rfl el39 ze56 by56 <| zM <| zF) ?_
        refine kx [(67, (vin (k + 1)))] [] (zE (oAd (k + 1)) <| zM <| zZ) ?_
        exact ⟨(k + 1, out ++ [(REdge.mk ((((p.getD k (A2.mk 0 0)).a0 % ts.length) : Nat) : Int) ((((p.getD k (A2.mk 0 0)).a1 % ts.length) : Nat) : Int) (qV (qmul (qV (qcj (ts.getD ((p.getD k (A2.mk 0 0)).a1 % ts.length) (RQuat.mk 0 0 0 0)))) (ts.getD ((p.getD k (A2.mk 0 0)).a0 % ts.length) (RQuat.mk 0 0 0 0)))))]), wk, ⟨by omega, by rw [p2_s (A2.mk 0 0) (by omega), md_y (show (p2 (p.getD k (A2.mk 0 0))).1 % ts.length ≠ (p2 (p.getD k (A2.mk 0 0))).2 % ts.length by show ((p.getD k (A2.mk 0 0)).a0 % ts.length) ≠ ((p.getD k (A2.mk 0 0)).a1 % ts.length); omega), ho]; rfl⟩, (by first | omega | (dsimp only; omega))⟩
    · replace h11 := of_decide_eq_false h11
      refine pwp_exit <| pwp_seq <| kx [(4, (.own 2 56 6 out.length)), (5, (vb true))] [] (zM <| zM <| zM <| zZ) ?_
      refine pwp_sim (wk (l := [(4, (.own 2 56 6 out.length)), (5, (vb true))]) (b := [(2, some (bxs encEdge out))])) ?_
      refine pwp_sim (sim_ren (S' := [(4, (.own 0 56 6 out.length)), (5, (vb true))]) (B' := [(0, some (bxs encEdge out))]) 0 2) ?_
      have hR : mdR ts p = out := by unfold mdR; rw [if_neg (by rw [hany]; decide), ho, show k = p.length by omega, List.take_length]
      rw [hR, show mdB ts = true by unfold mdB; rw [hany]; rfl]
      refine pwp_ret ⟨bget_sub (by kernel_rfl), refs_ok (by kernel_rfl), .inr (.inr ⟨4, 5, 0, 56, 6, out.length, (.val (.bool (true))), rfl, rfl, rfl, ?_⟩)⟩
      rfl
end Go.Proofs.YtihgdjljnaekmaaGreat
set_option linter.unusedVariables false
set_option linter.unusedSimpArgs false
namespace Go.Fid
section
variable {n : Nat} {es : List REdge} {x : REdge}
theorem getD_app {k : Nat} (h : k < es.length) : (es ++ [x]).getD k e0 = es.getD k e0 := by
  rw [List.getD_eq_getElem?_getD, List.getElem?_append_left h, ← List.getD_eq_getElem?_getD]
theorem getD_last : (es ++ [x]).getD es.length e0 = x := by
  rw [List.getD_eq_getElem?_getD, List.getElem?_append_right (Nat.le_refl _), Nat.sub_self]; rfl
theorem tPar_app (g : Bool) : ∀ {k : Nat}, k ≤ es.length → tPar g n (es ++ [x]) k = tPar g n es k
  | 0, _ => rfl
  | k + 1, h => by
    have ih := tPar_app g (k := k) (by omega)
    have e := getD_app (es := es) (x := x) (k := k) (by omega)
    unfold tPar
    rw [ih, e]
theorem tV_app : ∀ {k : Nat}, k ≤ es.length → ∀ j, tV n (es ++ [x]) k j = tV n es k j
  | 0, _, _ => rfl
  | k + 1, h, j => by
    have ih := fun j => tV_app (k := k) (by omega) j
    have e := getD_app (es := es) (x := x) (k := k) (by omega)
    have ep := tPar_app (n := n) (es := es) (x := x) true (k := k) (by omega)
    unfold tV
    rw [ep, e]
    simp only [ih]
theorem aV_app (h : pA (parL n es) x = pB (parL n es) x) (j : Nat) : aV n (es ++ [x]) j = aV n es j := by
  have ep := tPar_app (n := n) (es := es) (x := x) true (Nat.le_refl es.length)
  have ev := tV_app (n := n) (es := es) (x := x) (Nat.le_refl es.length) j
  have h' : pA (tPar true n es es.length) x = pB (tPar true n es es.length) x := h
  unfold aV
  rw [List.length_append, List.length_singleton]
  have hd : tV n (es ++ [x]) (es.length + 1) j = tV n (es ++ [x]) es.length j := by
    show (if pA (tPar true n (es ++ [x]) es.length) ((es ++ [x]).getD es.length e0) = pB (tPar true n (es ++ [x]) es.length) ((es ++ [x]).getD es.length e0) then _ else _) = _
    rw [ep, getD_last, if_pos h']
  rw [hd, ev]
theorem eok_app (he : EsOk n es) (hx : EOkE n x) : EsOk n (es ++ [x]) := fun y hy => by
  rcases List.mem_append.1 hy with h | h
  · exact he _ h
  · rw [List.mem_singleton.1 h]; exact hx
end
section
variable {ts : List RQuat} {l : List (Nat × Nat)}
theorem md_uniq (hs : allSm ts) (h1 : 1 ≤ ts.length) {k : Nat} (hk : k < ts.length) : Qeq (aV ts.length (mdL ts l) k) (qmul (qcj (getQ ts ((parL ts.length (mdL ts l)).getD k 0).toNat)) (getQ ts k)) := by
  have he := md_ok (l := l) hs h1
  have hW := md_sol (l := l) hs h1
  refine tV_uniq he (getQ ts) hW.1 (Nat.le_refl _) (fun i hi => ?_) hk
  obtain ⟨i', hil, e⟩ := tTak_mem hi
  exact hW.2 _ (mem_getD (by omega))
theorem par_lt (hs : allSm ts) (h1 : 1 ≤ ts.length) {k : Nat} (hk : k < ts.length) : 0 ≤ (parL ts.length (mdL ts l)).getD k 0 ∧ ((parL ts.length (mdL ts l)).getD k 0).toNat < ts.length := by
  have := tPar_rng (md_ok (l := l) hs h1) (Nat.le_refl (mdL ts l).length) hk
  unfold parL; omega
theorem md_lop (hs : allSm ts) (h1 : 1 ≤ ts.length) (h6 : ts.length ≤ 64) (hl : (mdL ts l).length ≤ 256) : lopC ((ts.length : Nat) : Int) (mdL ts l) = 0 :=
  lop_of (by omega) (by omega) hl (by rw [Int.toNat_natCast]; exact md_ok hs h1)
theorem md_con (hs : allSm ts) (h1 : 1 ≤ ts.length) (hl : lopC ((ts.length : Nat) : Int) (mdL ts l) = 0) (hc : conC ((ts.length : Nat) : Int) (mdL ts l) = 0) : conV ((ts.length : Nat) : Int) (mdL ts l) = true := by
  obtain ⟨b1, b2⟩ := con_0 hl
  rw [Int.toNat_natCast] at b1 b2
  rw [b1] at hc
  rw [b2, cn_sol (md_ok hs h1) hc]
  exact ⟨_, md_sol hs h1⟩
theorem md_same (hs : allSm ts) (h1 : 1 ≤ ts.length) (hc : absC ts.length (mdL ts l) = 0) {k : Nat} (hk : k < ts.length) :
    sameQ (qV (qmul (qV (qcj (getQ ts ((parL ts.length (mdL ts l)).getD k 0).toNat))) (getQ ts k))) (getQ (absL ts.length (mdL ts l)) k) = true := by
  have he := md_ok (l := l) hs h1
  have sr := sm_at hs (par_lt (l := l) hs h1 hk).2
  have sk := sm_at hs hk
  have hcz := qV_ok (qcj_nz sr.2.1) (qC_cj sr.2)
  have hnz := qmul_nz hcz.1 sk.2.1
  rw [sameQ_iff (qV_ok hnz (sm_btw sr sk)) ((abs_ok he hc).at hk), absL_at he hc hk]
  refine (qV_eq hnz (sm_btw sr sk)).trans ?_
  refine Qeq.trans ?_ (qcan_eq (aV_nz he k)).symm
  refine Qeq.trans ?_ (md_uniq hs h1 hk).symm
  exact (qV_eq (qcj_nz sr.2.1) (qC_cj sr.2)).mul (Qeq.refl _)
theorem md_wrong (hs : allSm ts) (h1 : 1 ≤ ts.length) {x : REdge} (hx : EOkE ts.length x) (hp : (parL ts.length (mdL ts l)).getD x.fr.toNat 0 = (parL ts.length (mdL ts l)).getD x.to_.toNat 0)
    (hq : sameQ (qV (qmul (qV (qcj (getQ ts x.to_.toNat))) (getQ ts x.fr.toNat))) x.turn = false) (hc : cnC ts.length (mdL ts l ++ [x]) = 0) : cnV ts.length (mdL ts l ++ [x]) = false := by
  have he := md_ok (l := l) hs h1
  have he2 := eok_app he hx
  cases hv : cnV ts.length (mdL ts l ++ [x]) with
  | false => rfl
  | true =>
    exfalso
    obtain ⟨W, hW⟩ := (cn_sol he2 hc).1 hv
    have ha := (aV_sol he2 hW).2 x (List.mem_append_right _ (by simp))
    unfold agE at ha
    rw [aV_app hp, aV_app hp] at ha
    obtain ⟨m1, m2⟩ := eok_lt hx
    have u1 := md_uniq (l := l) hs h1 m1
    have u2 := md_uniq (l := l) hs h1 m2
    rw [hp] at u1
    have sr := sm_at hs (par_lt (l := l) hs h1 m2).2
    have st := sm_at hs m2
    have sf := sm_at hs m1
    have e1 := u1.symm.trans (ha.trans (u2.mul (Qeq.refl x.turn)))
    have e2 := (Qeq.refl (getQ ts ((parL ts.length (mdL ts l)).getD x.to_.toNat 0).toNat)).mul e1
    rw [qmul_assoc (qcj _), ← qmul_assoc, ← qmul_assoc, qmul_cj, qsc_mul_l, qsc_mul_l, q1_mul, q1_mul] at e2
    have hn := qnz_n.1 sr.2.1
    have e3 : Qeq (getQ ts x.fr.toNat) (qmul (getQ ts x.to_.toNat) x.turn) := (Qeq.sc hn _).symm.trans (e2.trans (Qeq.sc hn _))
    have hcz := qV_ok (qcj_nz st.2.1) (qC_cj st.2)
    have hnz := qmul_nz hcz.1 sf.2.1
    have : sameQ (qV (qmul (qV (qcj (getQ ts x.to_.toNat))) (getQ ts x.fr.toNat))) x.turn = true := by
      rw [sameQ_iff (qV_ok hnz (sm_btw st sf)) hx.q]
      refine (qV_eq hnz (sm_btw st sf)).trans ?_
      refine ((qV_eq (qcj_nz st.2.1) (qC_cj st.2)).mul (Qeq.refl _)).trans ?_
      exact (qdiv st.2.1 hx.q.1).1 e3
    rw [this] at hq; cases hq
end
end Go.Fid
set_option linter.unusedVariables false
set_option linter.unusedSimpArgs false
namespace Go.Fid
section
variable {P : Program} {o : Oper} {S : Nat → SV}
theorem e_clw {y : Operand} {xs : List Operand} {ats : Array TypeId} {f : FuncId} {ds es : List Dat} {r : Dat} {zs : List SV} {cs : List SV} {k E s m : Nat} (hf : Takes P f ds r) (ho : o.op = .call { callee := .value y, args := xs.toArray, argTypes := ats }) (hy : ev S y = .d (.val (.func (.func f) #[] #[])))
    (hx : xs.map (ev S) = zs) (hz : OwnArgs k E s m es zs ds) (hes : ∀ e ∈ es, e.cells.length = s) (hl : es.length = m) (hc : cs.take (m * s) = (flat es).map .d) (ha : Avoids E r) : EOk P o S [(k, cs)] (.d r) :=
  fun a w D β Q hop hrd hD => by
    have hyv := hop y (by simp [ho, Op.operands, Call.operands])
    rw [hy] at hyv
    have hyv' := rep_val hyv
    have hrep : ∀ (i : Nat) v x, (xs.map a.eval)[i]? = some v → zs[i]? = some x → RepS w D β v x := fun i v x hv hz' => by
      rw [List.getElem?_map, Option.map_eq_some_iff] at hv
      obtain ⟨p, hqi, rfl⟩ := hv
      have hm := hop p (by simp [ho, Op.operands, Call.operands, List.mem_of_getElem? hqi])
      have hi := congrArg (fun l : List SV => l[i]?) hx
      simp only [List.getElem?_map, hqi, hz', Option.map_some, Option.some.injEq] at hi
      rw [hi] at hm
      exact hm
    have hlen : (xs.map a.eval).length = zs.length := by rw [← hx]; simp
    have hrun : (execOp a.eval o).run P w = .ok (.enter f (xs.map a.eval).toArray) w := by
      simp only [execOp, ho, resolve, Deferred.ofValue, hyv', Sem.run_bind, Sem.run_pure, Result.andThen_ok, invoke, Array.empty_append, Array.append_empty]
      rw [run_callFunc hf.may]
      simp
    have hfl := flat_length hes
    have hblk := hrd (k, cs) (by simp)
    have key : ∃ (D' : DSet) (X : TypeId → Nat → Nat → Prop), DOk D' w ∧ (∀ t g i, D' t g i ↔ D t g i ∨ X t g i) ∧ (∀ t g i, X t g i → t = E ∧ ∀ t' i', ¬ D t' g i') ∧ (∀ v x, Rep w D v x → Rep w D' v x) ∧ (∀ v, RepS w D β v (.own k E s m) → Rep w D' v (.sl E s es)) := by
      rcases hblk with ⟨g1, hcs⟩ | ⟨b, vs, T', g1, g2, g3, g4, g5⟩
      · refine ⟨D, fun _ _ _ => False, hD, fun t g i => by simp, fun _ _ _ h => h.elim, fun _ _ h => h, fun v hv => ?_⟩
        rcases hv with ⟨_, e2, e3⟩ | ⟨b, cap, vs, h1, _⟩
        · rw [e2] at hl
          have hn : es = [] := List.eq_nil_of_length_eq_zero hl
          subst hn
          rw [e3]; exact rep_nil w D E s
        · rw [h1] at g1; cases g1
      · have hmono : ∀ t' g i, D t' g i → (D t' g i ∨ (t' = E ∧ g = b)) ∧ w.cell? ⟨g, i, none⟩ = w.cell? ⟨g, i, none⟩ := fun t' g i hd => ⟨.inl hd, rfl⟩
        refine ⟨fun t' g i => D t' g i ∨ (t' = E ∧ g = b), fun t' g i => t' = E ∧ g = b, fun t' g i hd => ?_, fun _ _ _ => Iff.rfl, fun t g i h => ⟨h.1, fun t' i' hd => g5 t' i' (h.2 ▸ hd)⟩, fun v x hr => Rep.mono hmono hr, fun v hv => ?_⟩
        · rcases hd with hd | ⟨_, e⟩
          · exact hD _ _ _ hd
          · subst e; exact heap_lt g2
        · obtain ⟨b2, cap, h1, h2, h5, h6⟩ : ∃ b2 cap, β k = some b2 ∧ v = .slice (some ⟨b2, 0, none⟩) m cap ∧ m ≤ cap ∧ cap ≤ maxLen := by
            rcases hv with ⟨e1, _⟩ | ⟨b2, cap, vs2, h1, h2, h3, h4, h5, h6⟩
            · rw [e1] at g1; cases g1
            · exact ⟨b2, cap, h1, h2, h5, h6⟩
          obtain rfl : b = b2 := by rw [h1] at g1; injection g1 with g1; exact g1.symm
          rw [h2]
          have key : ∀ (i : Nat) d, (flat es)[i]? = some d → ∃ u, vs[0 + i]? = some u ∧ u.oneCell' = true ∧ Rep w D u d := fun i d hd => by
            have hi : i < m * s := by
              have := (List.getElem?_eq_some_iff.1 hd).1
              rw [hfl, hl] at this; exact this
            have e1 : cs[0 + i]? = some (.d d) := by
              have : (cs.take (m * s))[i]? = some (.d d) := by rw [hc]; simp [hd]
              rw [List.getElem?_take_of_lt hi] at this
              rw [Nat.zero_add]
              exact this
            exact g4 _ _ e1
          have hcell : ∀ i, w.cell? ⟨b, i, none⟩ = vs[i]? := fun i => cell_of_row w b i vs T' (0, 0) g2
          refine Rep.sl b 0 (fun i => vs.getD (0 + i) undef) hl.symm h5 h6 hes (fun _ => rfl) (fun i hi => .inr ⟨rfl, rfl⟩) (fun i hi => ?_) (fun i hi => ?_) (fun i d hd => ?_)
          · obtain ⟨x, q1, q2, q3⟩ := key i _ (List.getElem?_eq_getElem hi)
            rw [hcell, Array.getD_eq_getD_getElem?, q1]; rfl
          · obtain ⟨x, q1, q2, q3⟩ := key i _ (List.getElem?_eq_getElem hi)
            rw [Array.getD_eq_getD_getElem?, q1]; exact q2
          · obtain ⟨x, q1, q2, q3⟩ := key i d hd
            rw [Array.getD_eq_getD_getElem?, q1]
            exact Rep.mono hmono q3
    obtain ⟨D', X, hD', hX, hXp, hm1, hm2⟩ := key
    have hargs : Args w D' (xs.map a.eval) ds := ⟨hlen.trans hz.len, hz.rep hm1 hm2 hlen hrep⟩
    refine wp_enter hrun ((hf.run w D' _ hD' hargs).mono fun e w' h => ?_)
    obtain ⟨v, D2, he, h1, h2, h3⟩ := h
    refine ⟨v, he, v, fun t g i => D2 t g i ∧ ¬ X t g i, rfl, h1, ⟨fun t g i hd => ⟨h2.up _ _ _ ((hX t g i).2 (.inl hd)), fun hx' => (hXp t g i hx').2 t i hd⟩, fun t g i hd => ?_⟩, ?_⟩
    · rcases h2.new t g i hd.1 with h | h
      · rcases (hX t g i).1 h with h | h
        · exact .inl h
        · exact absurd h hd.2
      · exact .inr h
    · exact ha.rep (fun t g i hne hd => ⟨hd, fun hx' => hne (hXp t g i hx').1⟩) h3
end
end Go.Fid
