/- Part 37 of a proof: rules, plain facts, and functions walked. -/
import Derived.Test.YtihgdjljnaekmaaGreatM36
namespace Go.Proofs.YtihgdjljnaekmaaGreat
open Go.Fid
set_option maxRecDepth 4000
set_option linter.unusedVariables false
set_option linter.unusedSimpArgs false
theorem by51 : bytesB Tryz.prog 51 = some 64 := by kernel_rfl
theorem cb16 : callB Tryz.prog 16 = true := by kernel_rfl
theorem cb45 : callB Tryz.prog 45 = true := by kernel_rfl
theorem cb47 : callB Tryz.prog 47 = true := by kernel_rfl
theorem cb93 : callB Tryz.prog 93 = true := by kernel_rfl
theorem cb94 : callB Tryz.prog 94 = true := by kernel_rfl
theorem cb144 : callB Tryz.prog 144 = true := by kernel_rfl
theorem el44 : elemB Tryz.prog 44 = some (51, 4) := by kernel_rfl
theorem l8_errs (es : List REdge) (ts : List RQuat) (n : Nat) (heo : EsOk n es) (hn : n ≤ 64) (hl2 : es.length ≤ 256) (hts : TsOk n ts) : Takes Tryz.prog 45 [(.sl 56 6 (List.map encEdge es)), (.sl 28 4 (List.map encQuat ts))] (.tup [(.sl 51 4 (List.map encR (List.map ofQ (erL es ts)))), (.val (.int .i64 ((((erC es ts) : Nat) : Int))))]) := by
  refine fn_intro Tryz.func45 rfl cb45 rfl ?_
  show PWp _ _ _ _ ⟨[(0, (vl 56 6 encEdge es)), (1, (vl 28 4 encQuat ts))], []⟩
  refine pwp_seq <| kx [] [] (zE (oNl 51 4) <| zM <| zZ) ?_
  refine pwp_seq <| kx [(6, (.own 0 51 4 0))] [(0, some (bxs encR []))] (zO 0 51 4 <| zZ) ?_
  refine pwp_seq <| pwp_seq <| kx [(13, (vl 56 6 encEdge es)), (14, (vin es.length)), (15, (vin 0))] [] (zM <| zE (oLm el39) <| zM <| zZ) ?_
  refine pwp_block <| pwp_loop (α := Nat × List RRat) (fun (k, o) => ⟨[(1, (vl 28 4 encQuat ts)), (6, (.own 0 51 4 o.length)), (13, (vl 56 6 encEdge es)), (14, (vin es.length)), (15, (vin k))], [(0, some (bxs encR o))]⟩) (fun (k, o) => k ≤ es.length ∧ erUp es ts k ∧ o = List.map ofQ (List.map (erX ts) (es.take k))) (fun (k, o) => es.length - k) (0, []) wk ⟨Nat.zero_le _, erUp_0 _ _, rfl⟩ ?_
  rintro ⟨k, o⟩ ⟨hk, hv, ho⟩
  have hol : o.length = k := by rw [ho]; simp; omega
  refine pwp_seq <| kx [(16, (vb (decide (((k : Nat) : Int) < ((es.length : Nat) : Int)))))] [] (zE oLt <| zZ) ?_
  refine pwp_seq <| pwp_cond rfl (fun h1 => ?_) (fun h1 => ?_)
  · replace h1 := of_decide_eq_true h1
    have hek : EOkE n (es.getD k (REdge.mk 0 0 (RQuat.mk 0 0 0 0))) := eget heo (k := k) (by omega)
    obtain ⟨hek1, hek2, hek3, hek4, hek5, hek6⟩ := id hek
    have htT := hts.at (j := (es.getD k (REdge.mk 0 0 (RQuat.mk 0 0 0 0))).to_.toNat) (by omega)
    have htF := hts.at (j := (es.getD k (REdge.mk 0 0 (RQuat.mk 0 0 0 0))).fr.toNat) (by omega)
    have htl := hts.1
    refine pwp_skip <| pwp_seq <| pwp_block <| pwp_seq <| kx [(8, (.ref 1 0))] [(1, some (bx (encEdge (es.getD k (REdge.mk 0 0 (RQuat.mk 0 0 0 0))))))] (zE (oXl el39 k (REdge.mk 0 0 (RQuat.mk 0 0 0 0))) <| zE (oCa sh56) <| zH (oAl 1 ze56 zo56) <| zT (oSt sh56) <| zZ) ?_
    refine pwp_seq <| kd [(9, (.ref 2 0)), (10, (vin (qC (qmul (qV (qcj (ts.getD (((es.getD k (REdge.mk 0 0 (RQuat.mk 0 0 0 0))).to_).toNat) (RQuat.mk 0 0 0 0)))) (ts.getD (((es.getD k (REdge.mk 0 0 (RQuat.mk 0 0 0 0))).fr).toNat) (RQuat.mk 0 0 0 0))))))] [(2, some (bx (encQuat (qV (qmul (qV (qcj (ts.getD (((es.getD k (REdge.mk 0 0 (RQuat.mk 0 0 0 0))).to_).toNat) (RQuat.mk 0 0 0 0)))) (ts.getD (((es.getD k (REdge.mk 0 0 (RQuat.mk 0 0 0 0))).fr).toNat) (RQuat.mk 0 0 0 0)))))))] mo (wM <| wE (oFr fo56_1) <| wR (oL1 sh3) <| wE (oXl el34 (((es.getD k (REdge.mk 0 0 (RQuat.mk 0 0 0 0))).to_).toNat) (RQuat.mk 0 0 0 0)) <| wE (oCa sh28) <| wM <| wE (oFr fo56_0) <| wR (oL1 sh3) <| wE (oXl el34 (((es.getD k (REdge.mk 0 0 (RQuat.mk 0 0 0 0))).fr).toNat) (RQuat.mk 0 0 0 0)) <| wE (oCa sh28) <| wE (oCl (l8_under (ts.getD (((es.getD k (REdge.mk 0 0 (RQuat.mk 0 0 0 0))).to_).toNat) (RQuat.mk 0 0 0 0)) (ts.getD (((es.getD k (REdge.mk 0 0 (RQuat.mk 0 0 0 0))).fr).toNat) (RQuat.mk 0 0 0 0)) htT htF)) <| wM <| wE oEx <| wE oEx <| wH (hc := by kernel_rfl) (oAl 2 ze28 zo28) <| wT (oSt sh28) <| wM <| wZ) ?_
    refine pwp_seq <| pwp_seq <| kx [(34, (vb ((((qC (qmul (qV (qcj (ts.getD (((es.getD k (REdge.mk 0 0 (RQuat.mk 0 0 0 0))).to_).toNat) (RQuat.mk 0 0 0 0)))) (ts.getD (((es.getD k (REdge.mk 0 0 (RQuat.mk 0 0 0 0))).fr).toNat) (RQuat.mk 0 0 0 0)))) : Nat) : Int) != 0)))] [] (zM <| zE oNe <| zZ) ?_
    refine pwp_cond rfl (fun h2 => ?_) (fun h2 => ?_)
    · replace h2 := bne_iff_ne.1 h2
      refine pwp_seq <| kx [(4, (vl 51 4 encR [])), (5, (vin (qC (qmul (qV (qcj (ts.getD (((es.getD k (REdge.mk 0 0 (RQuat.mk 0 0 0 0))).to_).toNat) (RQuat.mk 0 0 0 0)))) (ts.getD (((es.getD k (REdge.mk 0 0 (RQuat.mk 0 0 0 0))).fr).toNat) (RQuat.mk 0 0 0 0))))))] [] (zM <| zE (oNl 51 4) <| zM <| zZ) ?_
      refine pwp_ret ⟨_, (.tmp (d := (.sl 51 4 (List.map encR []))) rfl (.tmp (d := (.val (.int .i64 ((((qC (qmul (qV (qcj (ts.getD (((es.getD k (REdge.mk 0 0 (RQuat.mk 0 0 0 0))).to_).toNat) (RQuat.mk 0 0 0 0)))) (ts.getD (((es.getD k (REdge.mk 0 0 (RQuat.mk 0 0 0 0))).fr).toNat) (RQuat.mk 0 0 0 0)))) : Nat) : Int))))) rfl .nil)), ?_⟩
      obtain ⟨q1, q2, q3⟩ := er_no (es := es) (ts := ts) (k := k) (by omega) (rot_ne h2)
      rw [q1, q2, show qC (qmul (qV (qcj (ts.getD (es.getD k (REdge.mk 0 0 (RQuat.mk 0 0 0 0))).to_.toNat (RQuat.mk 0 0 0 0)))) (ts.getD (es.getD k (REdge.mk 0 0 (RQuat.mk 0 0 0 0))).fr.toNat (RQuat.mk 0 0 0 0))) = 3 from q3]; rfl
    · replace h2 := bne_eq_false_iff_eq.1 h2
      have hqb : Qok (qV (qmul (qV (qcj (ts.getD (es.getD k (REdge.mk 0 0 (RQuat.mk 0 0 0 0))).to_.toNat (RQuat.mk 0 0 0 0)))) (ts.getD (es.getD k (REdge.mk 0 0 (RQuat.mk 0 0 0 0))).fr.toNat (RQuat.mk 0 0 0 0)))) := qV_ok (ebt_nz hts heo (k := k) (by omega)) (show qC (qmul (qV (qcj (ts.getD (es.getD k (REdge.mk 0 0 (RQuat.mk 0 0 0 0))).to_.toNat (RQuat.mk 0 0 0 0)))) (ts.getD (es.getD k (REdge.mk 0 0 (RQuat.mk 0 0 0 0))).fr.toNat (RQuat.mk 0 0 0 0))) = 0 by omega)
      refine pwp_skip <| pwp_seq <| kx [(11, (.ref 3 0))] [(3, some (bx (encR (ofQ (chQ ((es.getD k (REdge.mk 0 0 (RQuat.mk 0 0 0 0))).turn) (qV (qmul (qV (qcj (ts.getD (((es.getD k (REdge.mk 0 0 (RQuat.mk 0 0 0 0))).to_).toNat) (RQuat.mk 0 0 0 0)))) (ts.getD (((es.getD k (REdge.mk 0 0 (RQuat.mk 0 0 0 0))).fr).toNat) (RQuat.mk 0 0 0 0)))))))))] (zE (oFr fo56_2) <| zR (oLa sh28) <| zR (oLa sh28) <| zE (oCl (l8_chord ((es.getD k (REdge.mk 0 0 (RQuat.mk 0 0 0 0))).turn) (qV (qmul (qV (qcj (ts.getD (((es.getD k (REdge.mk 0 0 (RQuat.mk 0 0 0 0))).to_).toNat) (RQuat.mk 0 0 0 0)))) (ts.getD (((es.getD k (REdge.mk 0 0 (RQuat.mk 0 0 0 0))).fr).toNat) (RQuat.mk 0 0 0 0)))) hek6 hqb)) <| zM <| zE oEx <| zE oEx <| zH (oAl 3 ze51 zo51) <| zT (oSt sh51) <| zM <| zZ) ?_
      refine kf [(6, (.own 0 51 4 ((o ++ [(ofQ (chQ ((es.getD k (REdge.mk 0 0 (RQuat.mk 0 0 0 0))).turn) (qV (qmul (qV (qcj (ts.getD (((es.getD k (REdge.mk 0 0 (RQuat.mk 0 0 0 0))).to_).toNat) (RQuat.mk 0 0 0 0)))) (ts.getD (((es.getD k (REdge.mk 0 0 (RQuat.mk 0 0 0 0))).fr).toNat) (RQuat.mk 0 0 0 0))))))]).length)))] [(0, some (bxs encR (o ++ [(ofQ (chQ ((es.getD k (REdge.mk 0 0 (RQuat.mk 0 0 0 0))).turn) (qV (qmul (qV (qcj (ts.getD (((es.getD k (REdge.mk 0 0 (RQuat.mk 0 0 0 0))).to_).toNat) (RQuat.mk 0 0 0 0)))) (ts.getD (((es.getD k (REdge.mk 0 0 (RQuat.mk 0 0 0 0))).fr).toNat) (RQuat.mk 0 0 0 0))))))])))] (zM <| zR (oLa sh51) <| zE (oBs el44 ze51 zo51) <| zAS encR o [(ofQ (chQ ((es.getD k (REdge.mk 0 0 (RQuat.mk 0 0 0 0))).turn) (qV (qmul (qV (qcj (ts.getD (((es.getD k (REdge.mk 0 0 (RQuat.mk 0 0 0 0))).to_).toNat) (RQuat.mk 0 0 0 0)))) (ts.getD (((es.getD k (REdge.mk 0 0 (RQuat.mk 0 0 0 0))).fr).toNat) (RQuat.mk 0 0 0 0))))))] rfl el44 ze51 by51 <| zM <| zF) ?_
      refine kx [(15, (vin (k + 1)))] [] (zE (oAd (k + 1)) <| zM <| zZ) ?_
      exact ⟨(k + 1, o ++ [ofQ (erX ts (es.getD k (REdge.mk 0 0 (RQuat.mk 0 0 0 0))))]), wk, ⟨by omega, erUp_s hv (show qC (qmul (qV (qcj (ts.getD (es.getD k (REdge.mk 0 0 (RQuat.mk 0 0 0 0))).to_.toNat (RQuat.mk 0 0 0 0)))) (ts.getD (es.getD k (REdge.mk 0 0 (RQuat.mk 0 0 0 0))).fr.toNat (RQuat.mk 0 0 0 0))) = 0 by omega), er_push (by omega) ho⟩, (by first | omega | (dsimp only; omega))⟩
  · replace h1 := of_decide_eq_false h1
    refine pwp_exit <| pwp_seq <| pwp_sim (publish (t := 6) (k := 0) (es := List.map encR o) rfl rfl (pubs_cells _ _ (fun _ => rfl)) (map_len _ _ rfl) (pubs_take encR o (fun _ => rfl) rfl)) ?_
    refine kx [(4, (vl 51 4 encR o)), (5, (vin 0))] [] (zM <| zM <| zM <| zZ) ?_
    refine pwp_ret ⟨_, (.tmp (d := (.sl 51 4 (List.map encR o))) rfl (.tmp (d := (.val (.int .i64 (0)))) rfl .nil)), ?_⟩
    obtain ⟨q1, q2, _⟩ := er_yes (by omega) hv
    rw [ho, q1, q2]; rfl
theorem l8_nz (q : Rat) (hq : QL q 16) : Takes Tryz.prog 94 [(encR (ofQ q))] (.val (.bool ((nzS q)))) := by
  refine fn_intro Tryz.func94 rfl cb94 rfl ?_
  show PWp _ _ _ _ ⟨[(0, (.d (encR (ofQ q))))], []⟩
  refine pwp_seq <| kx [(1, (.ref 0 0))] [(0, some (bx (encR (ofQ q))))] (zN (oBx 0) <| zM <| zZ) ?_
  refine pwp_seq <| kx [(2, (vb ((signQ q) != 0)))] [] (zR (oLa sh51) <| zE (oCl (g_sign (ofQ q) q (qok_up (qok_of hq) (by decide)))) <| zE oNe <| zM <| zZ) ?_
  refine pwp_ret ⟨_, (.tmp (d := (.val (.bool (((signQ q) != 0))))) rfl .nil), ?_⟩
  rfl
theorem l8_ixN (L : List Rat) (hL : ∀ q ∈ L, QL q 16) (hb : L.length ≤ 1000000) : Takes Tryz.prog 144 [(.sl 51 4 (List.map encR (List.map ofQ L))), (.val (.func (.func 94) #[] #[]))] (.val (.int .i64 ((fIx nzS L 0)))) := by
  refine fn_intro Tryz.func144 rfl cb144 rfl ?_
  show PWp _ _ _ _ ⟨[(0, (vl 51 4 encR (List.map ofQ L))), (1, (.d (.val (.func (.func 94) #[] #[]))))], []⟩
  refine pwp_seq <| kx [] [] (zM <| zZ) ?_
  refine pwp_seq <| pwp_seq <| kx [(7, (vin L.length)), (8, (vin 0))] [] (zM <| zE (oLn el44 L.length) <| zM <| zZ) ?_
  refine pwp_block <| pwp_loop (α := Nat) (fun k => ⟨[(0, (vl 51 4 encR (List.map ofQ L))), (1, (.d (.val (.func (.func 94) #[] #[])))), (7, (vin L.length)), (8, (vin k))], []⟩) (fun k => k ≤ L.length ∧ fIx nzS L 0 = fIx nzS (L.drop k) k) (fun k => L.length - k) 0 wk ⟨Nat.zero_le _, rfl⟩ ?_
  rintro k ⟨hk, hv⟩
  refine pwp_seq <| kx [(9, (vb (decide (((k : Nat) : Int) < ((L.length : Nat) : Int)))))] [] (zE oLt <| zZ) ?_
  refine pwp_seq <| pwp_cond rfl (fun h1 => ?_) (fun h1 => ?_)
  · replace h1 := of_decide_eq_true h1
    refine pwp_skip <| pwp_seq <| pwp_block <| pwp_seq <| kx [(5, (vin k))] [] (zM <| zM <| zZ) ?_
    refine pwp_seq <| kx [(16, (vb (nzS (L.getD k 0))))] [] (zM <| zM <| zM <| zE (oXm el44 ofQ k 0) <| zE (oCa sh51) <| zE (oCl (l8_nz (L.getD k 0) (ql_getD hL (by decide) k))) <| zZ) ?_
    refine pwp_cond (b := (nzS (L.getD k 0))) rfl (fun h2 => ?_) (fun h2 => ?_)
    · have hix := fIx_at 0 nzS L k (by omega) h2
      refine pwp_seq <| kx [(4, (vin k))] [] (zM <| zM <| zZ) ?_
      refine pwp_ret ⟨_, (.tmp (d := (.val (.int .i64 (((k : Nat) : Int))))) rfl .nil), ?_⟩
      rw [hv, hix]; rfl
    · have hix := fIx_step 0 nzS L k (by omega) h2
      refine pwp_skip <| kx [(8, (vin (k + 1)))] [] (zE (oAd (k + 1)) <| zM <| zZ) ?_
      exact ⟨(k + 1), wk, ⟨by omega, hv.trans hix⟩, (by omega)⟩
  · replace h1 := of_decide_eq_false h1
    have hix := fIx_end nzS L k (by omega)
    refine pwp_exit <| pwp_seq <| kx [(4, (vi (-1)))] [] (zM <| zZ) ?_
    refine pwp_ret ⟨_, (.tmp (d := (.val (.int .i64 (-1)))) rfl .nil), ?_⟩
    rw [hv, hix]; rfl
theorem l8_anyN (L : List Rat) (hL : ∀ q ∈ L, QL q 16) (hb : L.length ≤ 1000000) : Takes Tryz.prog 93 [(.sl 51 4 (List.map encR (List.map ofQ L))), (.val (.func (.func 94) #[] #[]))] (.val (.bool ((L.any nzS)))) := by
  refine fn_intro Tryz.func93 rfl cb93 rfl ?_
  show PWp _ _ _ _ ⟨[(0, (vl 51 4 encR (List.map ofQ L))), (1, (.d (.val (.func (.func 94) #[] #[]))))], []⟩
  refine pwp_seq <| kx [] [] (zM <| zZ) ?_
  refine pwp_seq <| kx [(4, (vb (decide (0 ≤ (fIx nzS L 0)))))] [] (zM <| zM <| zE (oCl (l8_ixN L hL hb)) <| zE oGe <| zM <| zZ) ?_
  refine pwp_ret ⟨_, (.tmp (d := (.val (.bool (decide (0 ≤ (fIx nzS L 0)))))) rfl .nil), ?_⟩
  rw [fIx_any]; rfl
theorem l8_con (n : Nat) (es : List REdge) (heo : EsOk n es) (hn : n ≤ 64) (hl2 : es.length ≤ 256) : Takes Tryz.prog 47 [(.val (.int .i64 (((n : Nat) : Int)))), (.sl 56 6 (List.map encEdge es))] (.tup [(.val (.bool ((cnV n es)))), (.val (.int .i64 ((((cnC n es) : Nat) : Int))))]) := by
  refine fn_intro Tryz.func47 rfl cb47 rfl ?_
  show PWp _ _ _ _ ⟨[(0, (vin n)), (1, (vl 56 6 encEdge es))], []⟩
  refine pwp_seq <| kx [] [] (zM <| zM <| zZ) ?_
  refine pwp_seq <| kx [(6, (vl 28 4 encQuat (absL n es))), (7, (vin (absC n es)))] [] (zM <| zM <| zE (oCl (l8_abs n es heo hn hl2)) <| zM <| zE oEx <| zE oEx <| zM <| zM <| zZ) ?_
  refine pwp_seq <| pwp_seq <| kx [(16, (vb ((((absC n es) : Nat) : Int) != 0)))] [] (zM <| zE oNe <| zZ) ?_
  refine pwp_cond (b := ((((absC n es) : Nat) : Int) != 0)) rfl (fun h1 => ?_) (fun h1 => ?_)
  · replace h1 := bne_iff_ne.1 h1
    refine pwp_seq <| kx [(4, (vb false)), (5, (vin (absC n es)))] [] (zM <| zM <| zM <| zZ) ?_
    refine pwp_ret ⟨_, (.tmp (d := (.val (.bool (false)))) rfl (.tmp (d := (.val (.int .i64 ((((absC n es) : Nat) : Int))))) rfl .nil)), ?_⟩
    obtain ⟨q1, q2⟩ := cn_1 (rot_ne h1)
    rw [q1, q2]; rfl
  · replace h1 := bne_eq_false_iff_eq.1 h1
    have hts := abs_ok heo (show absC n es = 0 by omega)
    have hln := er_len (es := es) (ts := absL n es)
    refine pwp_skip <| pwp_seq <| kx [(7, (vin (erC es (absL n es)))), (8, (vl 51 4 encR (List.map ofQ (erL es (absL n es)))))] [] (zM <| zM <| zE (oCl (l8_errs es (absL n es) n heo hn hl2 hts)) <| zM <| zE oEx <| zE oEx <| zM <| zM <| zZ) ?_
    refine pwp_seq <| pwp_seq <| kx [(25, (vb ((((erC es (absL n es)) : Nat) : Int) != 0)))] [] (zM <| zE oNe <| zZ) ?_
    refine pwp_cond rfl (fun h2 => ?_) (fun h2 => ?_)
    · replace h2 := bne_iff_ne.1 h2
      refine pwp_seq <| kx [(4, (vb false)), (5, (vin (erC es (absL n es))))] [] (zM <| zM <| zM <| zZ) ?_
      refine pwp_ret ⟨_, (.tmp (d := (.val (.bool (false)))) rfl (.tmp (d := (.val (.int .i64 ((((erC es (absL n es)) : Nat) : Int))))) rfl .nil)), ?_⟩
      obtain ⟨q1, q2⟩ := cn_2 (n := n) (es := es) (by omega) (rot_ne h2)
      rw [q1, q2]; rfl
    · replace h2 := bne_eq_false_iff_eq.1 h2
      refine pwp_skip <| pwp_seq <| kx [(4, (vb (!((erL es (absL n es)).any nzS)))), (5, (vin 0))] [] (zM <| zE (oCl (l8_anyN (erL es (absL n es)) (er_ql hts heo) (by omega))) <| zE oNt <| zM <| zM <| zZ) ?_
      refine pwp_ret ⟨_, (.tmp (d := (.val (.bool (!((erL es (absL n es)).any nzS))))) rfl (.tmp (d := (.val (.int .i64 (0)))) rfl .nil)), ?_⟩
      have her : erC es (absL n es) = 0 := by omega
      have hok : erOk es (absL n es) := by unfold erC at her; split at her; assumption; cases her
      obtain ⟨q1, q2⟩ := cn_3 (n := n) (es := es) (by omega) her
      rw [q1, q2, alS_ch hts heo hok]; rfl
theorem l_Con (z : Int) (es : List REdge) (hb : es.length ≤ 1000000) : Takes Tryz.prog 16 [(.val (.int .i64 (z))), (.sl 56 6 (List.map encEdge es))] (.tup [(.val (.bool ((conV z es)))), (.val (.int .i64 ((((conC z es) : Nat) : Int))))]) := by
  refine fn_intro Tryz.func16 rfl cb16 rfl ?_
  show PWp _ _ _ _ ⟨[(0, (vi z)), (1, (vl 56 6 encEdge es))], []⟩
  refine pwp_seq <| kx [] [] (zM <| zM <| zZ) ?_
  refine pwp_seq <| pwp_seq <| kx [(6, (vin (lopC z es)))] [] (zM <| zM <| zE (oCl (l_check z es hb)) <| zM <| zZ) ?_
  refine pwp_seq <| kx [(18, (vb ((((lopC z es) : Nat) : Int) != 0)))] [] (zM <| zE oNe <| zZ) ?_
  refine pwp_cond (b := ((((lopC z es) : Nat) : Int) != 0)) rfl (fun h1 => ?_) (fun h1 => ?_)
  · replace h1 := bne_iff_ne.1 h1
    refine pwp_seq <| kx [(4, (vb false)), (5, (vin (lopC z es)))] [] (zM <| zM <| zM <| zZ) ?_
    refine pwp_ret ⟨_, (.tmp (d := (.val (.bool (false)))) rfl (.tmp (d := (.val (.int .i64 ((((lopC z es) : Nat) : Int))))) rfl .nil)), ?_⟩
    obtain ⟨q1, q2⟩ := con_n (rot_ne h1)
    rw [q1, q2]; rfl
  · replace h1 := bne_eq_false_iff_eq.1 h1
    have hc0 : lopC z es = 0 := by omega
    obtain ⟨hz1, hz2, hl2, heo⟩ := lopC_0 hc0
    refine pwp_skip <| pwp_seq <| kx [(7, (vl 28 4 encQuat (absL z.toNat es))), (8, (vin (absC z.toNat es)))] [] (zE (oQd (.val (.int .i64 (z))) (.val (.int .i64 (((z.toNat : Nat) : Int)))) (oV (vi z) (mv_ok (by kernel_rfl))) (by exact (congrArg (fun z => Dat.val (.int .i64 z)) (by omega)))) <| zM <| zE (oCl (l_abs z.toNat es heo (by omega) hl2)) <| zM <| zE oEx <| zE oEx <| zM <| zM <| zZ) ?_
    refine pwp_seq <| pwp_seq <| kx [(27, (vb ((((absC z.toNat es) : Nat) : Int) != 0)))] [] (zM <| zE oNe <| zZ) ?_
    refine pwp_cond (b := ((((absC z.toNat es) : Nat) : Int) != 0)) rfl (fun h2 => ?_) (fun h2 => ?_)
    · replace h2 := bne_iff_ne.1 h2
      refine pwp_seq <| kx [(4, (vb false)), (5, (vin (absC z.toNat es)))] [] (zM <| zM <| zM <| zZ) ?_
      refine pwp_ret ⟨_, (.tmp (d := (.val (.bool (false)))) rfl (.tmp (d := (.val (.int .i64 ((((absC z.toNat es) : Nat) : Int))))) rfl .nil)), ?_⟩
      obtain ⟨q1, q2⟩ := con_0 hc0
      obtain ⟨q3, q4⟩ := cn_1 (rot_ne h2)
      rw [q1, q2, q3, q4]; rfl
    · replace h2 := bne_eq_false_iff_eq.1 h2
      have hts := abs_ok heo (show absC z.toNat es = 0 by omega)
      refine pwp_skip <| pwp_seq <| kx [(9, (vb true))] [] (zM <| zZ) ?_
      refine pwp_seq <| pwp_seq <| kx [(29, (vl 56 6 encEdge es)), (30, (vin es.length)), (31, (vin 0))] [] (zM <| zE (oLm el39) <| zM <| zZ) ?_
      refine pwp_block <| pwp_loop (α := Nat × Bool) (fun (k, al) => ⟨[(7, (vl 28 4 encQuat (absL z.toNat es))), (9, (vb al)), (29, (vl 56 6 encEdge es)), (30, (vin es.length)), (31, (vin k))], []⟩) (fun (k, al) => k ≤ es.length ∧ erUp es (absL z.toNat es) k ∧ al = alS (es.take k) (absL z.toNat es)) (fun (k, al) => es.length - k) (0, true) wk ⟨Nat.zero_le _, erUp_0 _ _, rfl⟩ ?_
      rintro ⟨k, al⟩ ⟨hk, hv, ha⟩
      refine pwp_seq <| kx [(32, (vb (decide (((k : Nat) : Int) < ((es.length : Nat) : Int)))))] [] (zE oLt <| zZ) ?_
      refine pwp_seq <| pwp_cond rfl (fun h3 => ?_) (fun h3 => ?_)
      · replace h3 := of_decide_eq_true h3
        have hek : EOkE z.toNat (es.getD k (REdge.mk 0 0 (RQuat.mk 0 0 0 0))) := eget heo (k := k) (by omega)
        obtain ⟨hek1, hek2, hek3, hek4, hek5, hek6⟩ := id hek
        have htT := hts.at (j := (es.getD k (REdge.mk 0 0 (RQuat.mk 0 0 0 0))).to_.toNat) (by omega)
        have htF := hts.at (j := (es.getD k (REdge.mk 0 0 (RQuat.mk 0 0 0 0))).fr.toNat) (by omega)
        have htl := hts.1
        refine pwp_skip <| pwp_seq <| pwp_block <| pwp_seq <| kx [(11, (.ref 0 0))] [(0, some (bx (encEdge (es.getD k (REdge.mk 0 0 (RQuat.mk 0 0 0 0))))))] (zE (oXl el39 k (REdge.mk 0 0 (RQuat.mk 0 0 0 0))) <| zE (oCa sh56) <| zN (oAl 0 ze56 zo56) <| zT (oSt sh56) <| zZ) ?_
        refine pwp_seq <| kd [(12, (.ref 1 0)), (13, (vin (qC (qmul (qV (qcj ((absL z.toNat es).getD (((es.getD k (REdge.mk 0 0 (RQuat.mk 0 0 0 0))).to_).toNat) (RQuat.mk 0 0 0 0)))) ((absL z.toNat es).getD (((es.getD k (REdge.mk 0 0 (RQuat.mk 0 0 0 0))).fr).toNat) (RQuat.mk 0 0 0 0))))))] [(1, some (bx (encQuat (qV (qmul (qV (qcj ((absL z.toNat es).getD (((es.getD k (REdge.mk 0 0 (RQuat.mk 0 0 0 0))).to_).toNat) (RQuat.mk 0 0 0 0)))) ((absL z.toNat es).getD (((es.getD k (REdge.mk 0 0 (RQuat.mk 0 0 0 0))).fr).toNat) (RQuat.mk 0 0 0 0)))))))] mo (wM <| wE (oFr fo56_0) <| wR (oL1 sh3) <| wE (oXl el34 (((es.getD k (REdge.mk 0 0 (RQuat.mk 0 0 0 0))).fr).toNat) (RQuat.mk 0 0 0 0) (L := (absL z.toNat es))) <| wE (oCa sh28) <| wM <| wE (oFr fo56_1) <| wR (oL1 sh3) <| wE (oXl el34 (((es.getD k (REdge.mk 0 0 (RQuat.mk 0 0 0 0))).to_).toNat) (RQuat.mk 0 0 0 0) (L := (absL z.toNat es))) <| wE (oCa sh28) <| wE (oCl (l_btw ((absL z.toNat es).getD (((es.getD k (REdge.mk 0 0 (RQuat.mk 0 0 0 0))).fr).toNat) (RQuat.mk 0 0 0 0)) ((absL z.toNat es).getD (((es.getD k (REdge.mk 0 0 (RQuat.mk 0 0 0 0))).to_).toNat) (RQuat.mk 0 0 0 0)) htF htT)) <| wM <| wE oEx <| wE oEx <| wN (oAl 1 ze28 zo28) <| wT (oSt sh28) <| wM <| wZ) ?_
        refine pwp_seq <| pwp_seq <| kx [(50, (vb ((((qC (qmul (qV (qcj ((absL z.toNat es).getD (((es.getD k (REdge.mk 0 0 (RQuat.mk 0 0 0 0))).to_).toNat) (RQuat.mk 0 0 0 0)))) ((absL z.toNat es).getD (((es.getD k (REdge.mk 0 0 (RQuat.mk 0 0 0 0))).fr).toNat) (RQuat.mk 0 0 0 0)))) : Nat) : Int) != 0)))] [] (zM <| zE oNe <| zZ) ?_
        refine pwp_cond rfl (fun h4 => ?_) (fun h4 => ?_)
        · replace h4 := bne_iff_ne.1 h4
          refine pwp_seq <| kx [(4, (vb false)), (5, (vin (qC (qmul (qV (qcj ((absL z.toNat es).getD (((es.getD k (REdge.mk 0 0 (RQuat.mk 0 0 0 0))).to_).toNat) (RQuat.mk 0 0 0 0)))) ((absL z.toNat es).getD (((es.getD k (REdge.mk 0 0 (RQuat.mk 0 0 0 0))).fr).toNat) (RQuat.mk 0 0 0 0))))))] [] (zM <| zM <| zM <| zZ) ?_
          refine pwp_ret ⟨_, (.tmp (d := (.val (.bool (false)))) rfl (.tmp (d := (.val (.int .i64 ((((qC (qmul (qV (qcj ((absL z.toNat es).getD (((es.getD k (REdge.mk 0 0 (RQuat.mk 0 0 0 0))).to_).toNat) (RQuat.mk 0 0 0 0)))) ((absL z.toNat es).getD (((es.getD k (REdge.mk 0 0 (RQuat.mk 0 0 0 0))).fr).toNat) (RQuat.mk 0 0 0 0)))) : Nat) : Int))))) rfl .nil)), ?_⟩
          obtain ⟨q1, q2⟩ := con_0 hc0
          obtain ⟨q5, q6, q7⟩ := er_no (es := es) (ts := (absL z.toNat es)) (k := k) (by omega) (rot_ne h4)
          obtain ⟨q3, q4⟩ := cn_2 (n := z.toNat) (es := es) (by omega) (by rw [q6]; decide)
          rw [q1, q2, q3, q4, q6, show qC (qmul (qV (qcj ((absL z.toNat es).getD (es.getD k (REdge.mk 0 0 (RQuat.mk 0 0 0 0))).to_.toNat (RQuat.mk 0 0 0 0)))) ((absL z.toNat es).getD (es.getD k (REdge.mk 0 0 (RQuat.mk 0 0 0 0))).fr.toNat (RQuat.mk 0 0 0 0))) = 3 from q7]; rfl
        · replace h4 := bne_eq_false_iff_eq.1 h4
          have hqb : Qok (qV (qmul (qV (qcj ((absL z.toNat es).getD (es.getD k (REdge.mk 0 0 (RQuat.mk 0 0 0 0))).to_.toNat (RQuat.mk 0 0 0 0)))) ((absL z.toNat es).getD (es.getD k (REdge.mk 0 0 (RQuat.mk 0 0 0 0))).fr.toNat (RQuat.mk 0 0 0 0)))) := qV_ok (ebt_nz hts heo (k := k) (by omega)) (show qC (qmul (qV (qcj ((absL z.toNat es).getD (es.getD k (REdge.mk 0 0 (RQuat.mk 0 0 0 0))).to_.toNat (RQuat.mk 0 0 0 0)))) ((absL z.toNat es).getD (es.getD k (REdge.mk 0 0 (RQuat.mk 0 0 0 0))).fr.toNat (RQuat.mk 0 0 0 0))) = 0 by omega)
          refine pwp_skip <| kx [(9, (vb (al && (sameQ (qV (qmul (qV (qcj ((absL z.toNat es).getD (((es.getD k (REdge.mk 0 0 (RQuat.mk 0 0 0 0))).to_).toNat) (RQuat.mk 0 0 0 0)))) ((absL z.toNat es).getD (((es.getD k (REdge.mk 0 0 (RQuat.mk 0 0 0 0))).fr).toNat) (RQuat.mk 0 0 0 0)))) ((es.getD k (REdge.mk 0 0 (RQuat.mk 0 0 0 0))).turn)))))] [] ?_ ?_
          · refine zM <| zE (oV (vb al) (mv_ok (by kernel_rfl))) <| ?_
            rcases hb5 : al with _ | _
            · exact zK <| zK <| zK <| zK <| zE oPf <| zM <| zZ
            · exact zR (oLa sh28) <| zE (oFr fo56_2) <| zR (oLa sh28) <| zE (oCl (l_same (qV (qmul (qV (qcj ((absL z.toNat es).getD (((es.getD k (REdge.mk 0 0 (RQuat.mk 0 0 0 0))).to_).toNat) (RQuat.mk 0 0 0 0)))) ((absL z.toNat es).getD (((es.getD k (REdge.mk 0 0 (RQuat.mk 0 0 0 0))).fr).toNat) (RQuat.mk 0 0 0 0)))) ((es.getD k (REdge.mk 0 0 (RQuat.mk 0 0 0 0))).turn) hqb hek6)) <| zE oPa <| zM <| zZ
          refine kx [(31, (vin (k + 1)))] [] (zE (oAd (k + 1)) <| zM <| zZ) ?_
          exact ⟨(k + 1, (al && (sameQ (qV (qmul (qV (qcj ((absL z.toNat es).getD (es.getD k (REdge.mk 0 0 (RQuat.mk 0 0 0 0))).to_.toNat (RQuat.mk 0 0 0 0)))) ((absL z.toNat es).getD (es.getD k (REdge.mk 0 0 (RQuat.mk 0 0 0 0))).fr.toNat (RQuat.mk 0 0 0 0)))) (es.getD k (REdge.mk 0 0 (RQuat.mk 0 0 0 0))).turn))), wk, ⟨by omega, erUp_s hv (show qC (qmul (qV (qcj ((absL z.toNat es).getD (es.getD k (REdge.mk 0 0 (RQuat.mk 0 0 0 0))).to_.toNat (RQuat.mk 0 0 0 0)))) ((absL z.toNat es).getD (es.getD k (REdge.mk 0 0 (RQuat.mk 0 0 0 0))).fr.toNat (RQuat.mk 0 0 0 0))) = 0 by omega), by rw [alS_take (by omega), ← ha]; rfl⟩, (by first | omega | (dsimp only; omega))⟩
      · replace h3 := of_decide_eq_false h3
        refine pwp_exit <| pwp_seq <| kx [(4, (vb al)), (5, (vin 0))] [] (zM <| zM <| zM <| zZ) ?_
        refine pwp_ret ⟨_, (.tmp (d := (.val (.bool (al)))) rfl (.tmp (d := (.val (.int .i64 (0)))) rfl .nil)), ?_⟩
        obtain ⟨q1, q2⟩ := con_0 hc0
        obtain ⟨q5, q6, q7⟩ := er_yes (es := es) (ts := (absL z.toNat es)) (k := k) (by omega) hv
        obtain ⟨q3, q4⟩ := cn_3 (n := z.toNat) (es := es) (by omega) q6
        rw [q1, q2, q3, q4, ha, show k = es.length by omega, List.take_length]; rfl
end Go.Proofs.YtihgdjljnaekmaaGreat
