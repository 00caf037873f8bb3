/- Part 33 of a proof: rules, plain facts, and functions walked. -/
import Derived.Test.YtihgdjljnaekmaaGreatM32
import Derived.Test.YtihgdjljnaekmaaGreatM31
namespace Go.Proofs.YtihgdjljnaekmaaGreat
open Go.Fid
set_option maxRecDepth 4000
set_option linter.unusedVariables false
set_option linter.unusedSimpArgs false
theorem cb26 : callB Tryz.prog 26 = true := by kernel_rfl
theorem cb91 : callB Tryz.prog 91 = true := by kernel_rfl
theorem l8_over (p : RQuat) (q : RQuat) (hp : Qok p) (hq : Qok q) : Takes Tryz.prog 91 [(encQuat p), (encQuat q)] (.tup [(encQuat (qV (qmul p (qV (qcj q))))), (.val (.int .i64 ((((qC (qmul p (qV (qcj q)))) : Nat) : Int))))]) := by
  refine fn_intro Tryz.func91 rfl cb91 rfl ?_
  show PWp _ _ _ _ ⟨[(0, (.d (encQuat p))), (1, (.d (encQuat q)))], []⟩
  refine pwp_seq <| kx [(2, (.ref 0 0)), (3, (.ref 1 0)), (4, (.ref 2 0))] [(0, some (bx (encQuat p))), (1, some (bx (encQuat q))), (2, some (bx (encQuat (RQuat.mk 0 0 0 0))))] (zN (oBx 0) <| zN (oBx 1) <| zN (oAl 2 ze28 zo28) <| zM <| zZ) ?_
  refine pwp_seq <| kx [(6, (.ref 3 0)), (7, (vin (qC (qcj q))))] [(3, some (bx (encQuat (qV (qcj q)))))] (zR (oLa sh28) <| zE (oCl (l8_conj q hq)) <| zM <| zE oEx <| zE oEx <| zN (oAl 3 ze28 zo28) <| zT (oSt sh28) <| zM <| zZ) ?_
  refine pwp_seq <| pwp_seq <| kx [(14, (vb false))] [] (zM <| zE (oBk false oNe (by exact bne_eq_false_iff_eq.2 (by rw [show (qC (qcj q)) = 0 from (qC_cj hq)]; rfl))) <| zZ) ?_
  refine pwp_cond (b := false) (by kernel_rfl) (fun h => by cases h) (fun _ => ?_)
  refine pwp_skip <| pwp_seq <| kx [(5, (vin (qC (qmul p (qV (qcj q))))))] [(2, some (bx (encQuat (qV (qmul p (qV (qcj q)))))))] (zR (oLa sh28) <| zR (oLa sh28) <| zE (oCl (l8_mul p (qV (qcj q)) hp (qV_ok (qcj_nz hq.1) (qC_cj hq)))) <| zE oEx <| zE oEx <| zT (oSt sh28) <| zM <| zZ) ?_
  refine pwp_ret ⟨_, (res_a (cs := (bx (encQuat (qV (qmul p (qV (qcj q))))))) (d := (encQuat (qV (qmul p (qV (qcj q)))))) rfl rfl sh28 rfl rfl (.tmp (d := (.val (.int .i64 ((((qC (qmul p (qV (qcj q)))) : Nat) : Int))))) rfl .nil)), ?_⟩
  rfl
theorem l8_tree (n : Nat) (es : List REdge) (heo : EsOk n es) (hn : n ≤ 64) (hl2 : es.length ≤ 256) : Takes Tryz.prog 26 [(.val (.int .i64 (((n : Nat) : Int)))), (.sl 56 6 (List.map encEdge es))] (.tup [(.sl 3 1 (List.map enc_i64 (treL n es))), (.sl 3 1 (List.map enc_i64 (parL n es)))]) := by
  refine fn_intro Tryz.func26 rfl cb26 rfl ?_
  show PWp _ _ _ _ ⟨[(0, (vin n)), (1, (vl 56 6 encEdge es))], []⟩
  refine pwp_seq <| kx [(4, (.own 0 3 1 0)), (5, (.own 1 3 1 0))] [(0, some (bm enc_i64 [])), (1, some (bm enc_i64 []))] (zO 0 3 1 <| zO 1 3 1 <| zZ) ?_
  refine pwp_seq <| pwp_seq <| kx [(12, (vin n)), (13, (vin 0))] [] (zM <| zM <| zZ) ?_
  refine pwp_block <| pwp_loop (α := Nat × List Int) (fun (i, pt) => ⟨[(1, (vl 56 6 encEdge es)), (4, (.own 0 3 1 0)), (5, (.own 1 3 1 pt.length)), (12, (vin n)), (13, (vin i))], [(0, some (bm enc_i64 [])), (1, some (bm enc_i64 pt))]⟩) (fun (i, pt) => i ≤ n ∧ pt = ini i) (fun (i, pt) => n - i) (0, []) wk ⟨Nat.zero_le _, rfl⟩ ?_
  rintro ⟨i, pt⟩ ⟨hi, hp⟩
  have hpl : pt.length ≤ 64 := by rw [hp, ini_len]; omega
  refine pwp_seq <| kx [(14, (vb (decide (((i : Nat) : Int) < ((n : Nat) : Int)))))] [] (zE oLt <| zZ) ?_
  refine pwp_seq <| pwp_cond rfl (fun h1 => ?_) (fun h1 => ?_)
  · replace h1 := of_decide_eq_true h1
    refine pwp_skip <| pwp_seq <| pwp_block <| pwp_seq <| kx [(6, (vin i))] [] (zM <| zM <| zZ) ?_
    refine kf [(5, (.own 1 3 1 ((pt ++ [((i : Nat) : Int)]).length)))] [(1, some (bm enc_i64 (pt ++ [((i : Nat) : Int)])))] (zM <| zM <| zE (oBs el60 ze3 zo3) <| zA enc_i64 pt [((i : Nat) : Int)] rfl el60 ze3 by3 <| zM <| zF) ?_
    refine kx [(13, (vin (i + 1)))] [] (zE (oAd (i + 1)) <| zM <| zZ) ?_
    exact ⟨(i + 1, pt ++ [((i : Nat) : Int)]), wk, ⟨by omega, by rw [hp, ini_s]⟩, (by first | omega | (dsimp only; omega))⟩
  · replace h1 := of_decide_eq_false h1
    have hpn : pt.length = n := by rw [hp, ini_len]; omega
    rw [hpn]
    refine pwp_exit <| pwp_seq <| pwp_seq <| kx [(21, (vl 56 6 encEdge es)), (22, (vin es.length)), (23, (vin 0))] [] (zM <| zE (oLm el39) <| zM <| zZ) ?_
    refine pwp_block <| pwp_loop (α := Nat × List Int × List Int) (fun (k, tk, pt) => ⟨[(4, (.own 0 3 1 tk.length)), (5, (.own 1 3 1 n)), (21, (vl 56 6 encEdge es)), (22, (vin es.length)), (23, (vin k))], [(0, some (bm enc_i64 tk)), (1, some (bm enc_i64 pt))]⟩) (fun (k, tk, pt) => k ≤ es.length ∧ tk = tTak true n es k ∧ pt = tPar true n es k) (fun (k, tk, pt) => es.length - k) (0, [], pt) wk ⟨Nat.zero_le _, rfl, by rw [hp, show i = n by omega]; rfl⟩ ?_
    rintro ⟨k, tk, pt⟩ ⟨hk, htk, hpt⟩
    have hpl : pt.length = n := by rw [hpt, tPar_len]
    have htl : tk.length ≤ k := by rw [htk]; exact tTak_len _ _ _ _
    refine pwp_seq <| kx [(24, (vb (decide (((k : Nat) : Int) < ((es.length : Nat) : Int)))))] [] (zE oLt <| zZ) ?_
    refine pwp_seq <| pwp_cond rfl (fun h2 => ?_) (fun h2 => ?_)
    · replace h2 := of_decide_eq_true h2
      have hek : EOkE n (es.getD k (REdge.mk 0 0 (RQuat.mk 0 0 0 0))) := eget heo (k := k) (by omega)
      obtain ⟨hek1, hek2, hek3, hek4, hek5, _⟩ := id hek
      refine pwp_skip <| pwp_seq <| pwp_block <| pwp_seq <| kx [(7, (vin k)), (8, (.ref 2 0))] [(2, some (bx (encEdge (es.getD k (REdge.mk 0 0 (RQuat.mk 0 0 0 0))))))] (zM <| zE (oXl el39 k (REdge.mk 0 0 (RQuat.mk 0 0 0 0))) <| zE (oCa sh56) <| zH (oAl 2 ze56 zo56) <| zM <| zT (oSt sh56) <| zZ) ?_
      refine pwp_seq <| kd [(9, (vi (pt.getD (((es.getD k (REdge.mk 0 0 (RQuat.mk 0 0 0 0))).fr).toNat) 0))), (10, (vi (pt.getD (((es.getD k (REdge.mk 0 0 (RQuat.mk 0 0 0 0))).to_).toNat) 0)))] [] mo (wM <| wE (oFr fo56_0) <| wR (oL1 sh3) <| wE (oXo el60 (((es.getD k (REdge.mk 0 0 (RQuat.mk 0 0 0 0))).fr).toNat)) <| wR (oLp sh3 (((es.getD k (REdge.mk 0 0 (RQuat.mk 0 0 0 0))).fr).toNat) (0 : Int)) <| wM <| wE (oFr fo56_1) <| wR (oL1 sh3) <| wE (oXo el60 (((es.getD k (REdge.mk 0 0 (RQuat.mk 0 0 0 0))).to_).toNat)) <| wR (oLp sh3 (((es.getD k (REdge.mk 0 0 (RQuat.mk 0 0 0 0))).to_).toNat) (0 : Int)) <| wM <| wM <| wZ) ?_
      refine pwp_seq <| pwp_seq <| kx [(40, (vb ((pt.getD (((es.getD k (REdge.mk 0 0 (RQuat.mk 0 0 0 0))).fr).toNat) 0) == (pt.getD (((es.getD k (REdge.mk 0 0 (RQuat.mk 0 0 0 0))).to_).toNat) 0))))] [] (zM <| zM <| zE oEq <| zZ) ?_
      refine pwp_cond rfl (fun h3 => ?_) (fun h3 => ?_)
      · replace h3 := eq_of_beq h3
        refine pwp_exit <| kx [(23, (vin (k + 1)))] [] (zE (oAd (k + 1)) <| zM <| zZ) ?_
        exact ⟨(k + 1, tk, pt), wk, ⟨by omega, by rw [(tPar_y (by rw [← hpt]; exact h3)).2]; exact htk, by rw [(tPar_y (by rw [← hpt]; exact h3)).1]; exact hpt⟩, (by first | omega | (dsimp only; omega))⟩
      · replace h3 := ne_of_beq_false h3
        refine pwp_skip <| pwp_seq <| kf [(4, (.own 0 3 1 ((tk ++ [((k : Nat) : Int)]).length)))] [(0, some (bm enc_i64 (tk ++ [((k : Nat) : Int)])))] (zM <| zM <| zE (oBs el60 ze3 zo3) <| zA enc_i64 tk [((k : Nat) : Int)] rfl el60 ze3 by3 <| zM <| zF) ?_
        refine pwp_seq <| kx [(46, (vin n)), (47, (vin 0))] [] (zM <| zE (oLo el60) <| zM <| zZ) ?_
        refine pwp_block <| pwp_loop (α := Nat × List Int) (fun (m, q) => ⟨[(4, (.own 0 3 1 ((tk ++ [((k : Nat) : Int)]).length))), (5, (.own 1 3 1 n)), (9, (vi (pt.getD (((es.getD k (REdge.mk 0 0 (RQuat.mk 0 0 0 0))).fr).toNat) 0))), (10, (vi (pt.getD (((es.getD k (REdge.mk 0 0 (RQuat.mk 0 0 0 0))).to_).toNat) 0))), (21, (vl 56 6 encEdge es)), (22, (vin es.length)), (23, (vin k)), (46, (vin n)), (47, (vin m))], [(0, some (bm enc_i64 (tk ++ [((k : Nat) : Int)]))), (1, some (bm enc_i64 q))]⟩) (fun (m, q) => m ≤ n ∧ RlUp (min (pt.getD (es.getD k (REdge.mk 0 0 (RQuat.mk 0 0 0 0))).fr.toNat 0) (pt.getD (es.getD k (REdge.mk 0 0 (RQuat.mk 0 0 0 0))).to_.toNat 0)) (max (pt.getD (es.getD k (REdge.mk 0 0 (RQuat.mk 0 0 0 0))).fr.toNat 0) (pt.getD (es.getD k (REdge.mk 0 0 (RQuat.mk 0 0 0 0))).to_.toNat 0)) pt (List.range m) q) (fun (m, q) => n - m) (0, pt) wk ⟨Nat.zero_le _, RlUp_0 _ _ _⟩ ?_
        rintro ⟨m, q⟩ ⟨hm, hq⟩
        have hql := hq.1
        refine pwp_seq <| kx [(48, (vb (decide (((m : Nat) : Int) < ((n : Nat) : Int)))))] [] (zE oLt <| zZ) ?_
        refine pwp_seq <| pwp_cond rfl (fun h4 => ?_) (fun h4 => ?_)
        · replace h4 := of_decide_eq_true h4
          refine pwp_skip <| pwp_seq <| pwp_block <| pwp_seq <| kx [(11, (vin m))] [] (zM <| zM <| zZ) ?_
          refine pwp_seq <| kx [(57, (vb ((q.getD m 0) == (max (pt.getD (((es.getD k (REdge.mk 0 0 (RQuat.mk 0 0 0 0))).fr).toNat) 0) (pt.getD (((es.getD k (REdge.mk 0 0 (RQuat.mk 0 0 0 0))).to_).toNat) 0)))))] [] (zM <| zM <| zE (oXo el60 m) <| zR (oLp sh3 m (0 : Int)) <| zM <| zM <| zE (zMx (max (pt.getD (((es.getD k (REdge.mk 0 0 (RQuat.mk 0 0 0 0))).fr).toNat) 0) (pt.getD (((es.getD k (REdge.mk 0 0 (RQuat.mk 0 0 0 0))).to_).toNat) 0)) (hr := by first | omega | (dsimp only; omega))) <| zE oEq <| zZ) ?_
          refine pwp_cond rfl (fun h5 => ?_) (fun h5 => ?_)
          · replace h5 := eq_of_beq h5
            refine kx [] [(1, some (bm enc_i64 (q.set m (min (pt.getD (((es.getD k (REdge.mk 0 0 (RQuat.mk 0 0 0 0))).fr).toNat) 0) (pt.getD (((es.getD k (REdge.mk 0 0 (RQuat.mk 0 0 0 0))).to_).toNat) 0)))))] (zM <| zM <| zM <| zM <| zE (zMn (min (pt.getD (((es.getD k (REdge.mk 0 0 (RQuat.mk 0 0 0 0))).fr).toNat) 0) (pt.getD (((es.getD k (REdge.mk 0 0 (RQuat.mk 0 0 0 0))).to_).toNat) 0)) (hr := by first | omega | (dsimp only; omega))) <| zE (oXo el60 m) <| zT (oSp sh3 m (min (pt.getD (((es.getD k (REdge.mk 0 0 (RQuat.mk 0 0 0 0))).fr).toNat) 0) (pt.getD (((es.getD k (REdge.mk 0 0 (RQuat.mk 0 0 0 0))).to_).toNat) 0))) <| zZ) ?_
            refine kx [(47, (vin (m + 1)))] [] (zE (oAd (m + 1)) <| zM <| zZ) ?_
            exact ⟨(m + 1, q.set m (min (pt.getD (es.getD k (REdge.mk 0 0 (RQuat.mk 0 0 0 0))).fr.toNat 0) (pt.getD (es.getD k (REdge.mk 0 0 (RQuat.mk 0 0 0 0))).to_.toNat 0))), wk, ⟨by omega, by rw [List.range_succ]; exact RlUp_y hq (by omega) (by simp) h5⟩, (by first | omega | (dsimp only; omega))⟩
          · replace h5 := ne_of_beq_false h5
            refine pwp_skip <| kx [(47, (vin (m + 1)))] [] (zE (oAd (m + 1)) <| zM <| zZ) ?_
            exact ⟨(m + 1, q), wk, ⟨by omega, by rw [List.range_succ]; exact RlUp_n hq (by omega) (by simp) h5⟩, (by first | omega | (dsimp only; omega))⟩
        · replace h4 := of_decide_eq_false h4
          refine pwp_exit <| kx [(23, (vin (k + 1)))] [] (zE (oAd (k + 1)) <| zM <| zZ) ?_
          exact ⟨(k + 1, tk ++ [((k : Nat) : Int)], q), wk, ⟨by omega, by rw [(tPar_n (by rw [← hpt]; exact h3)).2, htk], by rw [(tPar_n (by rw [← hpt]; exact h3)).1, ← hpt]; exact (RlUp_end hq (fun j hj => List.mem_range.2 (by have := hq.1; omega))).trans (by simp only [mrg, kp, dp, if_true, Bool.false_eq_true, if_false]; rfl)⟩, (by first | omega | (dsimp only; omega))⟩
    · replace h2 := of_decide_eq_false h2
      refine pwp_exit <| pwp_seq <| pwp_sim (publish (t := 4) (k := 0) (es := List.map enc_i64 tk) rfl rfl (pub_cells _ _ (fun _ => rfl)) (map_len _ _ rfl) (pub_take _ _ (fun _ => rfl) rfl)) ?_
      refine pwp_sim (publish (t := 5) (k := 1) (es := List.map enc_i64 pt) rfl rfl (pub_cells _ _ (fun _ => rfl)) (map_len _ _ hpl) (pub_take _ _ (fun _ => rfl) hpl)) ?_
      refine kx [(4, (vl 3 1 enc_i64 tk)), (5, (vl 3 1 enc_i64 pt))] [] (zM <| zM <| zM <| zM <| zZ) ?_
      refine pwp_ret ⟨_, (.tmp (d := (.sl 3 1 (List.map enc_i64 tk))) rfl (.tmp (d := (.sl 3 1 (List.map enc_i64 pt))) rfl .nil)), ?_⟩
      rw [htk, hpt, show k = es.length by omega]; rfl
end Go.Proofs.YtihgdjljnaekmaaGreat
namespace Go.Proofs.YtihgdjljnaekmaaGreat
open Go.Fid
set_option maxRecDepth 4000
set_option linter.unusedVariables false
set_option linter.unusedSimpArgs false
theorem by28 : bytesB Tryz.prog 28 = some 32 := by kernel_rfl
theorem cb42 : callB Tryz.prog 42 = true := by kernel_rfl
theorem l8_abs (n : Nat) (es : List REdge) (heo : EsOk n es) (hn : n ≤ 64) (hl2 : es.length ≤ 256) : Takes Tryz.prog 42 [(.val (.int .i64 (((n : Nat) : Int)))), (.sl 56 6 (List.map encEdge es))] (.tup [(.sl 28 4 (List.map encQuat (absL n es))), (.val (.int .i64 ((((absC n es) : Nat) : Int))))]) := by
  have hpl := parL_len n es
  have htl : (treL n es).length ≤ es.length := tTak_len _ _ _ _
  refine fn_intro Tryz.func42 rfl cb42 rfl ?_
  show PWp _ _ _ _ ⟨[(0, (vin n)), (1, (vl 56 6 encEdge es))], []⟩
  refine pwp_seq <| kx [] [] (zE (oNl 28 4) <| zM <| zZ) ?_
  refine pwp_seq <| kx [(6, (vl 3 1 enc_i64 (treL n es))), (7, (vl 3 1 enc_i64 (parL n es)))] [] (zM <| zM <| zE (oCl (l8_tree n es heo hn hl2)) <| zM <| zE oEx <| zE oEx <| zM <| zM <| zZ) ?_
  refine pwp_seq <| kx [(8, (.own 0 28 4 n))] [(0, some (bxs encQuat (List.replicate n (RQuat.mk 0 0 0 0))))] (zM <| zN (oMkS 0 encQuat (RQuat.mk 0 0 0 0) n n el34 ze28 zo28 by28) <| zM <| zZ) ?_
  refine pwp_seq <| pwp_seq <| kx [(24, (vin n)), (25, (vin 0))] [] (zM <| zM <| zZ) ?_
  refine pwp_block <| pwp_loop (α := Nat × List RQuat) (fun (i, out) => ⟨[(1, (vl 56 6 encEdge es)), (6, (vl 3 1 enc_i64 (treL n es))), (7, (vl 3 1 enc_i64 (parL n es))), (8, (.own 0 28 4 n)), (24, (vin n)), (25, (vin i))], [(0, some (bxs encQuat out))]⟩) (fun (i, out) => i ≤ n ∧ RtUp n (parL n es) out i) (fun (i, out) => n - i) (0, List.replicate n (RQuat.mk 0 0 0 0)) wk ⟨Nat.zero_le _, RtUp_0 _ _⟩ ?_
  rintro ⟨i, out⟩ ⟨hi, hr⟩
  have hol := hr.1
  refine pwp_seq <| kx [(26, (vb (decide (((i : Nat) : Int) < ((n : Nat) : Int)))))] [] (zE oLt <| zZ) ?_
  refine pwp_seq <| pwp_cond rfl (fun h1 => ?_) (fun h1 => ?_)
  · replace h1 := of_decide_eq_true h1
    refine pwp_skip <| pwp_seq <| pwp_block <| pwp_seq <| kx [(9, (vin i))] [] (zM <| zM <| zZ) ?_
    refine pwp_seq <| kx [(33, (vb (((parL n es).getD i 0) == ((i : Nat) : Int))))] [] (zM <| zM <| zE (oXl el60 i (0 : Int) (L := (parL n es))) <| zE (oC1 sh3) <| zM <| zE oEq <| zZ) ?_
    refine pwp_cond rfl (fun h2 => ?_) (fun h2 => ?_)
    · replace h2 := eq_of_beq h2
      refine kx [] [(0, some (bxs encQuat (out.set i (RQuat.mk ((1 : Nat) : Int) 0 0 0))))] (zM <| zM <| zE (oBd pl28 ze28 zo28) <| zE (oXO el34 i) <| zT (oSA sh28 i (RQuat.mk ((1 : Nat) : Int) 0 0 0)) <| zZ) ?_
      refine kx [(25, (vin (i + 1)))] [] (zE (oAd (i + 1)) <| zM <| zZ) ?_
      exact ⟨(i + 1, out.set i (RQuat.mk 1 0 0 0)), wk, ⟨by omega, RtUp_y hr (by omega) h2⟩, (by first | omega | (dsimp only; omega))⟩
    · replace h2 := ne_of_beq_false h2
      refine pwp_skip <| kx [(25, (vin (i + 1)))] [] (zE (oAd (i + 1)) <| zM <| zZ) ?_
      exact ⟨(i + 1, out), wk, ⟨by omega, RtUp_n hr (by omega) h2⟩, (by first | omega | (dsimp only; omega))⟩
  · replace h1 := of_decide_eq_false h1
    refine pwp_exit <| pwp_seq <| pwp_seq <| kx [(10, (vb true))] [] (zM <| zZ) ?_
    refine pwp_block <| pwp_loop (α := Bool × List RQuat) (fun (ag, out) => ⟨[(1, (vl 56 6 encEdge es)), (6, (vl 3 1 enc_i64 (treL n es))), (8, (.own 0 28 4 n)), (10, (vb ag))], [(0, some (bxs encQuat out))]⟩) (fun (ag, out) => AbR n es out ∧ (ag = false → out = absL n es ∧ absC n es = 0)) (fun (ag, out) => mu2 out ag) (true, out) wk ⟨RtUp_end heo (by omega) hr, fun e => by cases e⟩ ?_
    rintro ⟨ag, out⟩ ⟨hab, hag⟩
    have hol := hab.1.1
    refine pwp_seq <| pwp_seq <| kx [(39, (vb ag))] [] (zM <| zZ) ?_
    refine pwp_cond (b := ag) rfl (fun h3 => ?_) (fun h3 => ?_)
    · refine pwp_skip <| pwp_block <| pwp_seq <| kx [(10, (vb false))] [] (zM <| zZ) ?_
      refine pwp_seq <| kx [(40, (vl 3 1 enc_i64 (treL n es))), (41, (vin ((treL n es).length))), (42, (vin 0))] [] (zM <| zE (oLm el60 (L := (treL n es))) <| zM <| zZ) ?_
      refine pwp_block <| pwp_loop (α := Nat × Bool × List RQuat) (fun (m, ah, ou) => ⟨[(1, (vl 56 6 encEdge es)), (6, (vl 3 1 enc_i64 (treL n es))), (8, (.own 0 28 4 n)), (10, (vb ah)), (40, (vl 3 1 enc_i64 (treL n es))), (41, (vin ((treL n es).length))), (42, (vin m))], [(0, some (bxs encQuat ou))]⟩) (fun (m, ah, ou) => m ≤ (treL n es).length ∧ AbW n es (treL n es) out ou ah m) (fun (m, ah, ou) => (treL n es).length - m) (0, false, out) wk ⟨Nat.zero_le _, AbW_0 hab⟩ ?_
      rintro ⟨m, ah, ou⟩ ⟨hm, hw⟩
      have houl := hw.1.1.1
      refine pwp_seq <| kx [(43, (vb (decide (((m : Nat) : Int) < (((treL n es).length : Nat) : Int)))))] [] (zE oLt <| zZ) ?_
      refine pwp_seq <| pwp_cond rfl (fun h4 => ?_) (fun h4 => ?_)
      · replace h4 := of_decide_eq_true h4
        obtain ⟨i_, hil, htm, him⟩ := tre_at (n := n) (es := es) (k := m) (by omega)
        have hix : i_ = ((treL n es).getD m 0).toNat := by rw [htm]; rfl
        subst hix
        have hei : EOkE n (es.getD (((treL n es).getD m 0)).toNat (REdge.mk 0 0 (RQuat.mk 0 0 0 0))) := eget heo hil
        obtain ⟨hei1, hei2, hei3, hei4, hei5, hei6⟩ := id hei
        refine pwp_skip <| pwp_seq <| pwp_block <| pwp_seq <| kx [(12, (vi ((treL n es).getD m 0)))] [] (zE (oXl el60 m (0 : Int) (L := (treL n es))) <| zE (oC1 sh3) <| zM <| zZ) ?_
        refine pwp_seq <| kx [(13, (.ref 1 0))] [(1, some (bx (encEdge (es.getD ((((treL n es).getD m 0)).toNat) (REdge.mk 0 0 (RQuat.mk 0 0 0 0))))))] (zM <| zM <| zE (oXl el39 ((((treL n es).getD m 0)).toNat) (REdge.mk 0 0 (RQuat.mk 0 0 0 0))) <| zE (oCa sh56) <| zH (oAl 1 ze56 zo56) <| zT (oSt sh56) <| zZ) ?_
        refine pwp_seq <| kx [(14, (vin 0))] [] (zM <| zZ) ?_
        refine pwp_seq <| pwp_seq <| kx [(15, (.ref 2 0))] [(2, some (bx (encQuat (RQuat.mk 0 0 0 0))))] (zE (oBd pl28 ze28 zo28) <| zH (oAl 2 ze28 zo28) <| zT (oSt sh28) <| zZ) ?_
        refine pwp_block <| pwp_seq <| kd [(51, (vb (!(decide ([(ou.getD (((es.getD ((((treL n es).getD m 0)).toNat) (REdge.mk 0 0 (RQuat.mk 0 0 0 0))).fr).toNat) (RQuat.mk 0 0 0 0)).a, (ou.getD (((es.getD ((((treL n es).getD m 0)).toNat) (REdge.mk 0 0 (RQuat.mk 0 0 0 0))).fr).toNat) (RQuat.mk 0 0 0 0)).b, (ou.getD (((es.getD ((((treL n es).getD m 0)).toNat) (REdge.mk 0 0 (RQuat.mk 0 0 0 0))).fr).toNat) (RQuat.mk 0 0 0 0)).c, (ou.getD (((es.getD ((((treL n es).getD m 0)).toNat) (REdge.mk 0 0 (RQuat.mk 0 0 0 0))).fr).toNat) (RQuat.mk 0 0 0 0)).d] = [0, 0, 0, 0])) && (decide ([(ou.getD (((es.getD ((((treL n es).getD m 0)).toNat) (REdge.mk 0 0 (RQuat.mk 0 0 0 0))).to_).toNat) (RQuat.mk 0 0 0 0)).a, (ou.getD (((es.getD ((((treL n es).getD m 0)).toNat) (REdge.mk 0 0 (RQuat.mk 0 0 0 0))).to_).toNat) (RQuat.mk 0 0 0 0)).b, (ou.getD (((es.getD ((((treL n es).getD m 0)).toNat) (REdge.mk 0 0 (RQuat.mk 0 0 0 0))).to_).toNat) (RQuat.mk 0 0 0 0)).c, (ou.getD (((es.getD ((((treL n es).getD m 0)).toNat) (REdge.mk 0 0 (RQuat.mk 0 0 0 0))).to_).toNat) (RQuat.mk 0 0 0 0)).d] = [0, 0, 0, 0])))))] [] mo ?_ ?_
        · refine wM <| wE (oFr fo56_0) <| wR (oL1 sh3) <| wE (oXO el34 (((es.getD ((((treL n es).getD m 0)).toNat) (REdge.mk 0 0 (RQuat.mk 0 0 0 0))).fr).toNat)) <| wR (oLA sh28 (((es.getD ((((treL n es).getD m 0)).toNat) (REdge.mk 0 0 (RQuat.mk 0 0 0 0))).fr).toNat) (RQuat.mk 0 0 0 0)) <| wR (oLa sh28) <| wE (oNs eqs28 .i64 [(ou.getD (((es.getD ((((treL n es).getD m 0)).toNat) (REdge.mk 0 0 (RQuat.mk 0 0 0 0))).fr).toNat) (RQuat.mk 0 0 0 0)).a, (ou.getD (((es.getD ((((treL n es).getD m 0)).toNat) (REdge.mk 0 0 (RQuat.mk 0 0 0 0))).fr).toNat) (RQuat.mk 0 0 0 0)).b, (ou.getD (((es.getD ((((treL n es).getD m 0)).toNat) (REdge.mk 0 0 (RQuat.mk 0 0 0 0))).fr).toNat) (RQuat.mk 0 0 0 0)).c, (ou.getD (((es.getD ((((treL n es).getD m 0)).toNat) (REdge.mk 0 0 (RQuat.mk 0 0 0 0))).fr).toNat) (RQuat.mk 0 0 0 0)).d] [0, 0, 0, 0]) <| wE (oV (vb (!(decide ([(ou.getD (((es.getD ((((treL n es).getD m 0)).toNat) (REdge.mk 0 0 (RQuat.mk 0 0 0 0))).fr).toNat) (RQuat.mk 0 0 0 0)).a, (ou.getD (((es.getD ((((treL n es).getD m 0)).toNat) (REdge.mk 0 0 (RQuat.mk 0 0 0 0))).fr).toNat) (RQuat.mk 0 0 0 0)).b, (ou.getD (((es.getD ((((treL n es).getD m 0)).toNat) (REdge.mk 0 0 (RQuat.mk 0 0 0 0))).fr).toNat) (RQuat.mk 0 0 0 0)).c, (ou.getD (((es.getD ((((treL n es).getD m 0)).toNat) (REdge.mk 0 0 (RQuat.mk 0 0 0 0))).fr).toNat) (RQuat.mk 0 0 0 0)).d] = [0, 0, 0, 0])))) (mv_ok (by kernel_rfl))) <| ?_
          rcases hb5 : (!(decide ([(ou.getD (((es.getD ((((treL n es).getD m 0)).toNat) (REdge.mk 0 0 (RQuat.mk 0 0 0 0))).fr).toNat) (RQuat.mk 0 0 0 0)).a, (ou.getD (((es.getD ((((treL n es).getD m 0)).toNat) (REdge.mk 0 0 (RQuat.mk 0 0 0 0))).fr).toNat) (RQuat.mk 0 0 0 0)).b, (ou.getD (((es.getD ((((treL n es).getD m 0)).toNat) (REdge.mk 0 0 (RQuat.mk 0 0 0 0))).fr).toNat) (RQuat.mk 0 0 0 0)).c, (ou.getD (((es.getD ((((treL n es).getD m 0)).toNat) (REdge.mk 0 0 (RQuat.mk 0 0 0 0))).fr).toNat) (RQuat.mk 0 0 0 0)).d] = [0, 0, 0, 0]))) with _ | _
          · exact wK <| wK <| wK <| wK <| wK <| wK <| wK <| wE oPf <| wM <| wZ
          · exact wM <| wE (oFr fo56_1) <| wR (oL1 sh3) <| wE (oXO el34 (((es.getD ((((treL n es).getD m 0)).toNat) (REdge.mk 0 0 (RQuat.mk 0 0 0 0))).to_).toNat)) <| wR (oLA sh28 (((es.getD ((((treL n es).getD m 0)).toNat) (REdge.mk 0 0 (RQuat.mk 0 0 0 0))).to_).toNat) (RQuat.mk 0 0 0 0)) <| wR (oLa sh28) <| wE (oEs eqs28 .i64 [(ou.getD (((es.getD ((((treL n es).getD m 0)).toNat) (REdge.mk 0 0 (RQuat.mk 0 0 0 0))).to_).toNat) (RQuat.mk 0 0 0 0)).a, (ou.getD (((es.getD ((((treL n es).getD m 0)).toNat) (REdge.mk 0 0 (RQuat.mk 0 0 0 0))).to_).toNat) (RQuat.mk 0 0 0 0)).b, (ou.getD (((es.getD ((((treL n es).getD m 0)).toNat) (REdge.mk 0 0 (RQuat.mk 0 0 0 0))).to_).toNat) (RQuat.mk 0 0 0 0)).c, (ou.getD (((es.getD ((((treL n es).getD m 0)).toNat) (REdge.mk 0 0 (RQuat.mk 0 0 0 0))).to_).toNat) (RQuat.mk 0 0 0 0)).d] [0, 0, 0, 0]) <| wE oPa <| wM <| wZ
        refine pwp_cond rfl (fun h6 => ?_) (fun h6 => ?_)
        · have hz := fw_t h6
          have hfw := ab_fwd heo hw.1.1 him hil hz.1
          refine pwp_seq <| kd [(14, (vin (qC (qmul (ou.getD (((es.getD ((((treL n es).getD m 0)).toNat) (REdge.mk 0 0 (RQuat.mk 0 0 0 0))).fr).toNat) (RQuat.mk 0 0 0 0)) (qV (qcj ((es.getD ((((treL n es).getD m 0)).toNat) (REdge.mk 0 0 (RQuat.mk 0 0 0 0))).turn)))))))] [(0, some (bxs encQuat (ou.set (((es.getD ((((treL n es).getD m 0)).toNat) (REdge.mk 0 0 (RQuat.mk 0 0 0 0))).to_).toNat) (qV (qmul (ou.getD (((es.getD ((((treL n es).getD m 0)).toNat) (REdge.mk 0 0 (RQuat.mk 0 0 0 0))).fr).toNat) (RQuat.mk 0 0 0 0)) (qV (qcj ((es.getD ((((treL n es).getD m 0)).toNat) (REdge.mk 0 0 (RQuat.mk 0 0 0 0))).turn))))))))] mo (wM <| wE (oFr fo56_1) <| wR (oL1 sh3) <| wM <| wE (oFr fo56_0) <| wR (oL1 sh3) <| wE (oXO el34 (((es.getD ((((treL n es).getD m 0)).toNat) (REdge.mk 0 0 (RQuat.mk 0 0 0 0))).fr).toNat)) <| wR (oLA sh28 (((es.getD ((((treL n es).getD m 0)).toNat) (REdge.mk 0 0 (RQuat.mk 0 0 0 0))).fr).toNat) (RQuat.mk 0 0 0 0)) <| wE (oFr fo56_2) <| wR (oLa sh28) <| wE (oCl (l8_over (ou.getD (((es.getD ((((treL n es).getD m 0)).toNat) (REdge.mk 0 0 (RQuat.mk 0 0 0 0))).fr).toNat) (RQuat.mk 0 0 0 0)) ((es.getD ((((treL n es).getD m 0)).toNat) (REdge.mk 0 0 (RQuat.mk 0 0 0 0))).turn) ((hw.1.1.at heo (by omega) hz.1).1) hei6)) <| wM <| wE oEx <| wE oEx <| wE (oXO el34 (((es.getD ((((treL n es).getD m 0)).toNat) (REdge.mk 0 0 (RQuat.mk 0 0 0 0))).to_).toNat)) <| wT (oSA sh28 (((es.getD ((((treL n es).getD m 0)).toNat) (REdge.mk 0 0 (RQuat.mk 0 0 0 0))).to_).toNat) (qV (qmul (ou.getD (((es.getD ((((treL n es).getD m 0)).toNat) (REdge.mk 0 0 (RQuat.mk 0 0 0 0))).fr).toNat) (RQuat.mk 0 0 0 0)) (qV (qcj ((es.getD ((((treL n es).getD m 0)).toNat) (REdge.mk 0 0 (RQuat.mk 0 0 0 0))).turn)))))) <| wM <| wZ) ?_
          refine kx [(10, (vb true))] [] (zM <| zZ) ?_
          refine pwp_seq <| kx [(116, (vb ((((qC (qmul (ou.getD (((es.getD ((((treL n es).getD m 0)).toNat) (REdge.mk 0 0 (RQuat.mk 0 0 0 0))).fr).toNat) (RQuat.mk 0 0 0 0)) (qV (qcj ((es.getD ((((treL n es).getD m 0)).toNat) (REdge.mk 0 0 (RQuat.mk 0 0 0 0))).turn))))) : Nat) : Int) != ((0 : Nat) : Int))))] [] (zM <| zE oNe <| zZ) ?_
          refine pwp_cond rfl (fun h7 => ?_) (fun h7 => ?_)
          · replace h7 := bne_iff_ne.1 h7
            refine pwp_seq <| kx [(4, (vl 28 4 encQuat [])), (5, (vin (qC (qmul (ou.getD (((es.getD ((((treL n es).getD m 0)).toNat) (REdge.mk 0 0 (RQuat.mk 0 0 0 0))).fr).toNat) (RQuat.mk 0 0 0 0)) (qV (qcj ((es.getD ((((treL n es).getD m 0)).toNat) (REdge.mk 0 0 (RQuat.mk 0 0 0 0))).turn)))))))] [] (zM <| zE (oNl 28 4) <| zM <| zZ) ?_
            refine pwp_ret ⟨_, (.tmp (d := (.sl 28 4 (List.map encQuat []))) rfl (.tmp (d := (.val (.int .i64 ((((qC (qmul (ou.getD (((es.getD ((((treL n es).getD m 0)).toNat) (REdge.mk 0 0 (RQuat.mk 0 0 0 0))).fr).toNat) (RQuat.mk 0 0 0 0)) (qV (qcj ((es.getD ((((treL n es).getD m 0)).toNat) (REdge.mk 0 0 (RQuat.mk 0 0 0 0))).turn))))) : Nat) : Int))))) rfl .nil)), ?_⟩
            obtain ⟨q1, q2, q3⟩ := ab_no (j := (es.getD (((treL n es).getD m 0)).toNat (REdge.mk 0 0 (RQuat.mk 0 0 0 0))).to_.toNat) heo (by omega) hfw.1 hfw.2 (rot_ne h7)
            rw [q1, q2]; show _ = _; rw [show qC (qmul (ou.getD (es.getD (((treL n es).getD m 0)).toNat (REdge.mk 0 0 (RQuat.mk 0 0 0 0))).fr.toNat (RQuat.mk 0 0 0 0)) (qV (qcj (es.getD (((treL n es).getD m 0)).toNat (REdge.mk 0 0 (RQuat.mk 0 0 0 0))).turn))) = 3 from q3]; rfl
          · replace h7 := bne_eq_false_iff_eq.1 h7
            refine pwp_skip <| kx [(42, (vin (m + 1)))] [] (zE (oAd (m + 1)) <| zM <| zZ) ?_
            exact ⟨(m + 1, true, ou.set (es.getD (((treL n es).getD m 0)).toNat (REdge.mk 0 0 (RQuat.mk 0 0 0 0))).to_.toNat (qV (qmul (ou.getD (es.getD (((treL n es).getD m 0)).toNat (REdge.mk 0 0 (RQuat.mk 0 0 0 0))).fr.toNat (RQuat.mk 0 0 0 0)) (qV (qcj (es.getD (((treL n es).getD m 0)).toNat (REdge.mk 0 0 (RQuat.mk 0 0 0 0))).turn))))), wk, ⟨by omega, hw.put' (j := (es.getD (((treL n es).getD m 0)).toNat (REdge.mk 0 0 (RQuat.mk 0 0 0 0))).to_.toNat) heo (by omega) hz.2 hfw (show qC (qmul (ou.getD (es.getD (((treL n es).getD m 0)).toNat (REdge.mk 0 0 (RQuat.mk 0 0 0 0))).fr.toNat (RQuat.mk 0 0 0 0)) (qV (qcj (es.getD (((treL n es).getD m 0)).toNat (REdge.mk 0 0 (RQuat.mk 0 0 0 0))).turn))) = 0 by omega)⟩, (by first | omega | (dsimp only; omega))⟩
        · refine pwp_seq <| kd [(83, (vb ((decide ([(ou.getD (((es.getD ((((treL n es).getD m 0)).toNat) (REdge.mk 0 0 (RQuat.mk 0 0 0 0))).fr).toNat) (RQuat.mk 0 0 0 0)).a, (ou.getD (((es.getD ((((treL n es).getD m 0)).toNat) (REdge.mk 0 0 (RQuat.mk 0 0 0 0))).fr).toNat) (RQuat.mk 0 0 0 0)).b, (ou.getD (((es.getD ((((treL n es).getD m 0)).toNat) (REdge.mk 0 0 (RQuat.mk 0 0 0 0))).fr).toNat) (RQuat.mk 0 0 0 0)).c, (ou.getD (((es.getD ((((treL n es).getD m 0)).toNat) (REdge.mk 0 0 (RQuat.mk 0 0 0 0))).fr).toNat) (RQuat.mk 0 0 0 0)).d] = [0, 0, 0, 0])) && !(decide ([(ou.getD (((es.getD ((((treL n es).getD m 0)).toNat) (REdge.mk 0 0 (RQuat.mk 0 0 0 0))).to_).toNat) (RQuat.mk 0 0 0 0)).a, (ou.getD (((es.getD ((((treL n es).getD m 0)).toNat) (REdge.mk 0 0 (RQuat.mk 0 0 0 0))).to_).toNat) (RQuat.mk 0 0 0 0)).b, (ou.getD (((es.getD ((((treL n es).getD m 0)).toNat) (REdge.mk 0 0 (RQuat.mk 0 0 0 0))).to_).toNat) (RQuat.mk 0 0 0 0)).c, (ou.getD (((es.getD ((((treL n es).getD m 0)).toNat) (REdge.mk 0 0 (RQuat.mk 0 0 0 0))).to_).toNat) (RQuat.mk 0 0 0 0)).d] = [0, 0, 0, 0])))))] [] mo ?_ ?_
          · refine wM <| wE (oFr fo56_0) <| wR (oL1 sh3) <| wE (oXO el34 (((es.getD ((((treL n es).getD m 0)).toNat) (REdge.mk 0 0 (RQuat.mk 0 0 0 0))).fr).toNat)) <| wR (oLA sh28 (((es.getD ((((treL n es).getD m 0)).toNat) (REdge.mk 0 0 (RQuat.mk 0 0 0 0))).fr).toNat) (RQuat.mk 0 0 0 0)) <| wR (oLa sh28) <| wE (oEs eqs28 .i64 [(ou.getD (((es.getD ((((treL n es).getD m 0)).toNat) (REdge.mk 0 0 (RQuat.mk 0 0 0 0))).fr).toNat) (RQuat.mk 0 0 0 0)).a, (ou.getD (((es.getD ((((treL n es).getD m 0)).toNat) (REdge.mk 0 0 (RQuat.mk 0 0 0 0))).fr).toNat) (RQuat.mk 0 0 0 0)).b, (ou.getD (((es.getD ((((treL n es).getD m 0)).toNat) (REdge.mk 0 0 (RQuat.mk 0 0 0 0))).fr).toNat) (RQuat.mk 0 0 0 0)).c, (ou.getD (((es.getD ((((treL n es).getD m 0)).toNat) (REdge.mk 0 0 (RQuat.mk 0 0 0 0))).fr).toNat) (RQuat.mk 0 0 0 0)).d] [0, 0, 0, 0]) <| wE (oV (vb (decide ([(ou.getD (((es.getD ((((treL n es).getD m 0)).toNat) (REdge.mk 0 0 (RQuat.mk 0 0 0 0))).fr).toNat) (RQuat.mk 0 0 0 0)).a, (ou.getD (((es.getD ((((treL n es).getD m 0)).toNat) (REdge.mk 0 0 (RQuat.mk 0 0 0 0))).fr).toNat) (RQuat.mk 0 0 0 0)).b, (ou.getD (((es.getD ((((treL n es).getD m 0)).toNat) (REdge.mk 0 0 (RQuat.mk 0 0 0 0))).fr).toNat) (RQuat.mk 0 0 0 0)).c, (ou.getD (((es.getD ((((treL n es).getD m 0)).toNat) (REdge.mk 0 0 (RQuat.mk 0 0 0 0))).fr).toNat) (RQuat.mk 0 0 0 0)).d] = [0, 0, 0, 0]))) (mv_ok (by kernel_rfl))) <| ?_
            rcases hb8 : (decide ([(ou.getD (((es.getD ((((treL n es).getD m 0)).toNat) (REdge.mk 0 0 (RQuat.mk 0 0 0 0))).fr).toNat) (RQuat.mk 0 0 0 0)).a, (ou.getD (((es.getD ((((treL n es).getD m 0)).toNat) (REdge.mk 0 0 (RQuat.mk 0 0 0 0))).fr).toNat) (RQuat.mk 0 0 0 0)).b, (ou.getD (((es.getD ((((treL n es).getD m 0)).toNat) (REdge.mk 0 0 (RQuat.mk 0 0 0 0))).fr).toNat) (RQuat.mk 0 0 0 0)).c, (ou.getD (((es.getD ((((treL n es).getD m 0)).toNat) (REdge.mk 0 0 (RQuat.mk 0 0 0 0))).fr).toNat) (RQuat.mk 0 0 0 0)).d] = [0, 0, 0, 0])) with _ | _
            · replace hb8 := of_decide_eq_false hb8
              exact wK <| wK <| wK <| wK <| wK <| wK <| wK <| wE oPf <| wM <| wZ
            · replace hb8 := of_decide_eq_true hb8
              exact wM <| wE (oFr fo56_1) <| wR (oL1 sh3) <| wE (oXO el34 (((es.getD ((((treL n es).getD m 0)).toNat) (REdge.mk 0 0 (RQuat.mk 0 0 0 0))).to_).toNat)) <| wR (oLA sh28 (((es.getD ((((treL n es).getD m 0)).toNat) (REdge.mk 0 0 (RQuat.mk 0 0 0 0))).to_).toNat) (RQuat.mk 0 0 0 0)) <| wR (oLa sh28) <| wE (oNs eqs28 .i64 [(ou.getD (((es.getD ((((treL n es).getD m 0)).toNat) (REdge.mk 0 0 (RQuat.mk 0 0 0 0))).to_).toNat) (RQuat.mk 0 0 0 0)).a, (ou.getD (((es.getD ((((treL n es).getD m 0)).toNat) (REdge.mk 0 0 (RQuat.mk 0 0 0 0))).to_).toNat) (RQuat.mk 0 0 0 0)).b, (ou.getD (((es.getD ((((treL n es).getD m 0)).toNat) (REdge.mk 0 0 (RQuat.mk 0 0 0 0))).to_).toNat) (RQuat.mk 0 0 0 0)).c, (ou.getD (((es.getD ((((treL n es).getD m 0)).toNat) (REdge.mk 0 0 (RQuat.mk 0 0 0 0))).to_).toNat) (RQuat.mk 0 0 0 0)).d] [0, 0, 0, 0]) <| wE oPa <| wM <| wZ
          refine pwp_cond rfl (fun h9 => ?_) (fun h9 => ?_)
          · have hz := bw_t h9
            have hbw := ab_bwd heo hw.1.1 him hil hz.2
            refine pwp_seq <| kd [(14, (vin (qC (qmul (ou.getD (((es.getD ((((treL n es).getD m 0)).toNat) (REdge.mk 0 0 (RQuat.mk 0 0 0 0))).to_).toNat) (RQuat.mk 0 0 0 0)) ((es.getD ((((treL n es).getD m 0)).toNat) (REdge.mk 0 0 (RQuat.mk 0 0 0 0))).turn)))))] [(0, some (bxs encQuat (ou.set (((es.getD ((((treL n es).getD m 0)).toNat) (REdge.mk 0 0 (RQuat.mk 0 0 0 0))).fr).toNat) (qV (qmul (ou.getD (((es.getD ((((treL n es).getD m 0)).toNat) (REdge.mk 0 0 (RQuat.mk 0 0 0 0))).to_).toNat) (RQuat.mk 0 0 0 0)) ((es.getD ((((treL n es).getD m 0)).toNat) (REdge.mk 0 0 (RQuat.mk 0 0 0 0))).turn))))))] mo (wM <| wE (oFr fo56_0) <| wR (oL1 sh3) <| wM <| wE (oFr fo56_1) <| wR (oL1 sh3) <| wE (oXO el34 (((es.getD ((((treL n es).getD m 0)).toNat) (REdge.mk 0 0 (RQuat.mk 0 0 0 0))).to_).toNat)) <| wR (oLA sh28 (((es.getD ((((treL n es).getD m 0)).toNat) (REdge.mk 0 0 (RQuat.mk 0 0 0 0))).to_).toNat) (RQuat.mk 0 0 0 0)) <| wE (oFr fo56_2) <| wR (oLa sh28) <| wE (oCl (l8_mul (ou.getD (((es.getD ((((treL n es).getD m 0)).toNat) (REdge.mk 0 0 (RQuat.mk 0 0 0 0))).to_).toNat) (RQuat.mk 0 0 0 0)) ((es.getD ((((treL n es).getD m 0)).toNat) (REdge.mk 0 0 (RQuat.mk 0 0 0 0))).turn) ((hw.1.1.at heo (by omega) hz.2).1) hei6)) <| wM <| wE oEx <| wE oEx <| wE (oXO el34 (((es.getD ((((treL n es).getD m 0)).toNat) (REdge.mk 0 0 (RQuat.mk 0 0 0 0))).fr).toNat)) <| wT (oSA sh28 (((es.getD ((((treL n es).getD m 0)).toNat) (REdge.mk 0 0 (RQuat.mk 0 0 0 0))).fr).toNat) (qV (qmul (ou.getD (((es.getD ((((treL n es).getD m 0)).toNat) (REdge.mk 0 0 (RQuat.mk 0 0 0 0))).to_).toNat) (RQuat.mk 0 0 0 0)) ((es.getD ((((treL n es).getD m 0)).toNat) (REdge.mk 0 0 (RQuat.mk 0 0 0 0))).turn)))) <| wM <| wZ) ?_
            refine kx [(10, (vb true))] [] (zM <| zZ) ?_
            refine pwp_seq <| kx [(116, (vb ((((qC (qmul (ou.getD (((es.getD ((((treL n es).getD m 0)).toNat) (REdge.mk 0 0 (RQuat.mk 0 0 0 0))).to_).toNat) (RQuat.mk 0 0 0 0)) ((es.getD ((((treL n es).getD m 0)).toNat) (REdge.mk 0 0 (RQuat.mk 0 0 0 0))).turn))) : Nat) : Int) != ((0 : Nat) : Int))))] [] (zM <| zE oNe <| zZ) ?_
            refine pwp_cond rfl (fun h10 => ?_) (fun h10 => ?_)
            · replace h10 := bne_iff_ne.1 h10
              refine pwp_seq <| kx [(4, (vl 28 4 encQuat [])), (5, (vin (qC (qmul (ou.getD (((es.getD ((((treL n es).getD m 0)).toNat) (REdge.mk 0 0 (RQuat.mk 0 0 0 0))).to_).toNat) (RQuat.mk 0 0 0 0)) ((es.getD ((((treL n es).getD m 0)).toNat) (REdge.mk 0 0 (RQuat.mk 0 0 0 0))).turn)))))] [] (zM <| zE (oNl 28 4) <| zM <| zZ) ?_
              refine pwp_ret ⟨_, (.tmp (d := (.sl 28 4 (List.map encQuat []))) rfl (.tmp (d := (.val (.int .i64 ((((qC (qmul (ou.getD (((es.getD ((((treL n es).getD m 0)).toNat) (REdge.mk 0 0 (RQuat.mk 0 0 0 0))).to_).toNat) (RQuat.mk 0 0 0 0)) ((es.getD ((((treL n es).getD m 0)).toNat) (REdge.mk 0 0 (RQuat.mk 0 0 0 0))).turn))) : Nat) : Int))))) rfl .nil)), ?_⟩
              obtain ⟨q1, q2, q3⟩ := ab_no (j := (es.getD (((treL n es).getD m 0)).toNat (REdge.mk 0 0 (RQuat.mk 0 0 0 0))).fr.toNat) heo (by omega) hbw.1 hbw.2 (rot_ne h10)
              rw [q1, q2]; show _ = _; rw [show qC (qmul (ou.getD (es.getD (((treL n es).getD m 0)).toNat (REdge.mk 0 0 (RQuat.mk 0 0 0 0))).to_.toNat (RQuat.mk 0 0 0 0)) (es.getD (((treL n es).getD m 0)).toNat (REdge.mk 0 0 (RQuat.mk 0 0 0 0))).turn) = 3 from q3]; rfl
            · replace h10 := bne_eq_false_iff_eq.1 h10
              refine pwp_skip <| kx [(42, (vin (m + 1)))] [] (zE (oAd (m + 1)) <| zM <| zZ) ?_
              exact ⟨(m + 1, true, ou.set (es.getD (((treL n es).getD m 0)).toNat (REdge.mk 0 0 (RQuat.mk 0 0 0 0))).fr.toNat (qV (qmul (ou.getD (es.getD (((treL n es).getD m 0)).toNat (REdge.mk 0 0 (RQuat.mk 0 0 0 0))).to_.toNat (RQuat.mk 0 0 0 0)) (es.getD (((treL n es).getD m 0)).toNat (REdge.mk 0 0 (RQuat.mk 0 0 0 0))).turn))), wk, ⟨by omega, hw.put' (j := (es.getD (((treL n es).getD m 0)).toNat (REdge.mk 0 0 (RQuat.mk 0 0 0 0))).fr.toNat) heo (by omega) hz.1 hbw (show qC (qmul (ou.getD (es.getD (((treL n es).getD m 0)).toNat (REdge.mk 0 0 (RQuat.mk 0 0 0 0))).to_.toNat (RQuat.mk 0 0 0 0)) (es.getD (((treL n es).getD m 0)).toNat (REdge.mk 0 0 (RQuat.mk 0 0 0 0))).turn) = 0 by omega)⟩, (by first | omega | (dsimp only; omega))⟩
          · refine pwp_skip <| pwp_seq <| kx [(116, (vb false))] [] (zM <| zE (oBk false oNe) <| zZ) ?_
            refine pwp_cond (b := false) (by kernel_rfl) (fun h => by cases h) (fun _ => ?_)
            refine pwp_skip <| kx [(42, (vin (m + 1)))] [] (zE (oAd (m + 1)) <| zM <| zZ) ?_
            exact ⟨(m + 1, ah, ou), wk, ⟨by omega, hw.skip (cl_of h6 h9)⟩, (by first | omega | (dsimp only; omega))⟩
      · replace h4 := of_decide_eq_false h4
        refine pwp_exit ?_
        exact ⟨(ah, ou), wk, ⟨hw.1, fun e => by subst e; exact AbW_end heo hw (by omega)⟩, (hw.mu h3)⟩
    · refine pwp_exit <| pwp_seq <| pwp_sim (publish (t := 8) (k := 0) (es := List.map encQuat out) rfl rfl (pubs_cells _ _ (fun _ => rfl)) (map_len _ _ hol) (pubs_take encQuat out (fun _ => rfl) hol)) ?_
      refine kx [(4, (vl 28 4 encQuat out)), (5, (vin 0))] [] (zM <| zM <| zM <| zZ) ?_
      refine pwp_ret ⟨_, (.tmp (d := (.sl 28 4 (List.map encQuat out))) rfl (.tmp (d := (.val (.int .i64 (((0 : Nat) : Int))))) rfl .nil)), ?_⟩
      obtain ⟨q1, q2⟩ := hag h3
      rw [q1, q2]; rfl
end Go.Proofs.YtihgdjljnaekmaaGreat
