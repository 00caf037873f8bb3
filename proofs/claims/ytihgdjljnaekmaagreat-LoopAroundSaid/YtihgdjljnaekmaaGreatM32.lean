/- Part 32 of a proof: rules, plain facts, and functions walked. -/
import Derived.Test.YtihgdjljnaekmaaGreatM31
import Derived.Test.YtihgdjljnaekmaaGreatM25
import Derived.Test.YtihgdjljnaekmaaGreatM30
namespace Go.Proofs.YtihgdjljnaekmaaGreat
open Go.Fid
set_option maxRecDepth 4000
set_option linter.unusedVariables false
set_option linter.unusedSimpArgs false
theorem cb71 : callB Tryz.prog 71 = true := by kernel_rfl
theorem mapB166 : mapB Tryz.prog 166 = true := by kernel_rfl
set_option maxHeartbeats 1000000 in
theorem l_tree (n : Nat) (es : List REdge) (heo : EsOk n es) (hn : n ≤ 64) (hl2 : es.length ≤ 256) : Takes Tryz.prog 71 [(.val (.int .i64 ((n : Nat) : Int))), (.sl 56 6 (List.map encEdge es))] (.sl 3 1 (List.map enc_i64 (treL n es))) := by
  refine fn_intro Tryz.func71 rfl cb71 rfl ?_
  show PWp _ _ _ _ ⟨[(0, (vin n)), (1, (vl 56 6 encEdge es))], []⟩
  refine owp_down ?_
  refine owp_seq ?_
  refine owp_lift ?_
  refine kx [] [] (zE (oNl 3 1) <| zZ) ?_
  refine owp_seq ?_
  refine owp_region (os_make rfl mapB166 (by kernel_rfl) rfl (fun m _ => ?_))
  refine oM (.nil ?_)
  refine owp_imp (oimp_sim (wk (l := [(0, (vin n)), (1, (vl 56 6 encEdge es)), (5, (.d (.val (.map (some m)))))]) (b := []))) ?_
  refine owp_seq ?_
  refine owp_seq ?_
  refine owp_lift ?_
  refine kx [(15, (vin n)), (16, (vin 0))] [] (zM <| zM <| zZ) ?_
  refine owp_block ?_
  refine owp_loop (α := Nat) (fun i => ⟨⟨[(1, (vl 56 6 encEdge es)), (5, (.d (.val (.map (some m))))), (15, (vin n)), (16, (vin i))], []⟩, [(m, mapO (ini i))]⟩) (fun i => i ≤ n) (fun i => n - i) 0 (oimp_sim wk) (Nat.zero_le _) ?_
  intro i hi
  refine owp_seq ?_
  refine owp_lift ?_
  refine kx [(17, (vb (decide (((i : Nat) : Int) < ((n : Nat) : Int)))))] [] (zE oLt <| zZ) ?_
  refine owp_seq ?_
  refine owp_cond rfl (fun h1 => ?_) (fun h1 => ?_)
  · replace h1 := of_decide_eq_true h1
    refine owp_skip ?_
    refine owp_seq ?_
    refine owp_block ?_
    refine owp_seq ?_
    refine owp_lift ?_
    refine kx [(6, (vin i))] [] (zM <| zM <| zZ) ?_
    refine owp_region (oM <| oM <| oM <| .cons (o_ins (p := ini i) (v := ((i : Nat) : Int)) rfl mapB166 rfl (by rw [ini_len]; rfl) rfl (fun q hq => by cases hq) (by kernel_rfl) (by kernel_rfl) nh_nil rfl) (.nil ?_))
    refine owp_imp (y := ⟨⟨[(1, (vl 56 6 encEdge es)), (5, (.d (.val (.map (some m))))), (15, (vin n)), (16, (vin i))], []⟩, [(m, mapO (ini (i + 1)))]⟩) (by rw [ini_s]; exact oimp_sim wk) ?_
    refine owp_lift ?_
    refine kx [(16, (vin (i + 1)))] [] (zE (oAd (i + 1)) <| zM <| zZ) ?_
    exact ⟨i + 1, oimp_sim wk, by omega, by omega⟩
  · replace h1 := of_decide_eq_false h1
    obtain rfl : i = n := by omega
    refine owp_exit ?_
    refine owp_seq ?_
    refine owp_lift ?_
    refine kx [(7, (.own 0 3 1 0))] [(0, some (bm enc_i64 []))] (zO 0 3 1 <| zZ) ?_
    refine owp_seq ?_
    refine owp_seq ?_
    refine owp_lift ?_
    refine kx [(23, (vl 56 6 encEdge es)), (24, (vin es.length)), (25, (vin 0))] [] (zM <| zE (oLm el39) <| zM <| zZ) ?_
    refine owp_block ?_
    refine owp_loop (α := Nat) (fun k => ⟨⟨[(1, (vl 56 6 encEdge es)), (5, (.d (.val (.map (some m))))), (7, .own 0 3 1 (tTak false i es k).length), (23, (vl 56 6 encEdge es)), (24, (vin es.length)), (25, (vin k))], [(0, some (bm enc_i64 (tTak false i es k)))]⟩, [(m, mapO (tPar false i es k))]⟩) (fun k => k ≤ es.length) (fun k => es.length - k) 0 (oimp_sim wk) (Nat.zero_le _) ?_
    intro k hk
    refine owp_seq ?_
    refine owp_lift ?_
    refine kx [(26, (vb (decide (((k : Nat) : Int) < ((es.length : Nat) : Int)))))] [] (zE oLt <| zZ) ?_
    refine owp_seq ?_
    refine owp_cond rfl (fun h2 => ?_) (fun h2 => ?_)
    · replace h2 := of_decide_eq_true h2
      have hkl : k < es.length := by omega
      obtain ⟨hx0, hx1, hx2, hx3⟩ := pA_in heo hkl false
      have htl := tTak_len false i es k
      refine owp_skip ?_
      refine owp_seq ?_
      refine owp_block ?_
      refine owp_seq ?_
      refine owp_lift ?_
      refine kx [(8, (vin k)), (9, (.ref 1 0))] [(1, some (bx (encEdge (es.getD k (REdge.mk 0 0 (RQuat.mk 0 0 0 0))))))] (zM <| zE (oXl el39 k (REdge.mk 0 0 (RQuat.mk 0 0 0 0))) <| zE (oCa sh56) <| zH (oAl 1 ze56 zo56) <| zM <| zT (oSt sh56) <| zZ) ?_
      refine owp_seq ?_
      refine owp_imp (oimp_hob (t := 5) rfl (.head _) rfl) ?_
      refine owp_lift ?_
      refine kd [(10, (vi (pA (tPar false i es k) (es.getD k (REdge.mk 0 0 (RQuat.mk 0 0 0 0)))))), (11, (vi (pB (tPar false i es k) (es.getD k (REdge.mk 0 0 (RQuat.mk 0 0 0 0))))))] [] mo (wM <| wE (oFr fo56_0) <| wR (oL1 sh3) <| wE (e_lookZ (by exact rfl) mapB166 (by exact rfl) (by exact rfl) hx0 hx1) <| wM <| wE (oFr fo56_1) <| wR (oL1 sh3) <| wE (e_lookZ (by exact rfl) mapB166 (by exact rfl) (by exact rfl) hx2 hx3) <| wM <| wM <| wZ) ?_
      refine owp_imp (oimp_sim ((simp_hob (t := 5) rfl).trans (wk (l := [(1, (vl 56 6 encEdge es)), (5, (.d (.val (.map (some m))))), (7, .own 0 3 1 (tTak false i es k).length), (8, (vin k)), (10, (vi (pA (tPar false i es k) (es.getD k (REdge.mk 0 0 (RQuat.mk 0 0 0 0)))))), (11, (vi (pB (tPar false i es k) (es.getD k (REdge.mk 0 0 (RQuat.mk 0 0 0 0)))))), (23, (vl 56 6 encEdge es)), (24, (vin es.length)), (25, (vin k))]) (b := [(0, some (bm enc_i64 (tTak false i es k)))])))) ?_
      refine owp_seq ?_
      refine owp_seq ?_
      refine owp_lift ?_
      refine kx [(40, (vb ((pA (tPar false i es k) (es.getD k (REdge.mk 0 0 (RQuat.mk 0 0 0 0)))) == (pB (tPar false i es k) (es.getD k (REdge.mk 0 0 (RQuat.mk 0 0 0 0)))))))] [] (zM <| zM <| zE oEq <| zZ) ?_
      refine owp_cond rfl (fun h3 => ?_) (fun h3 => ?_)
      · replace h3 := eq_of_beq h3
        obtain ⟨q1, q2⟩ := tPar_y (g := false) (n := i) (es := es) (k := k) h3
        refine owp_exit ?_
        refine owp_lift ?_
        refine kx [(25, (vin (k + 1)))] [] (zE (oAd (k + 1)) <| zM <| zZ) ?_
        refine ⟨k + 1, ?_, by omega, by omega⟩
        show OImp _ ⟨⟨[(1, (vl 56 6 encEdge es)), (5, (.d (.val (.map (some m))))), (7, .own 0 3 1 (tTak false i es (k + 1)).length), (23, (vl 56 6 encEdge es)), (24, (vin es.length)), (25, (vin (k + 1)))], [(0, some (bm enc_i64 (tTak false i es (k + 1))))]⟩, [(m, mapO (tPar false i es (k + 1)))]⟩
        rw [q1, q2]; exact oimp_sim wk
      · replace h3 := ne_of_beq_false h3
        obtain ⟨q1, q2⟩ := tPar_n (g := false) (n := i) (es := es) (k := k) h3
        refine owp_skip ?_
        refine owp_seq ?_
        refine owp_lift ?_
        refine kf [(7, .own 0 3 1 (tTak false i es k ++ [((k : Nat) : Int)]).length)] [(0, some (bm enc_i64 (tTak false i es k ++ [((k : Nat) : Int)])))] (zM <| zM <| zE (oBs el60 ze3 zo3) <| zA enc_i64 (tTak false i es k) [((k : Nat) : Int)] rfl el60 ze3 by3 (hbig := by exact (by simp only [List.length_cons, List.length_nil, maxLen]; omega)) (hbig' := by exact (by simp only [List.length_cons, List.length_nil]; omega)) <| zM <| zF) ?_
        refine owp_seq ?_
        refine owp_imp (oimp_sim (wk (l := [(1, (vl 56 6 encEdge es)), (5, (.d (.val (.map (some m))))), (7, .own 0 3 1 (tTak false i es k ++ [((k : Nat) : Int)]).length), (8, (vin k)), (10, (vi (pA (tPar false i es k) (es.getD k (REdge.mk 0 0 (RQuat.mk 0 0 0 0)))))), (11, (vi (pB (tPar false i es k) (es.getD k (REdge.mk 0 0 (RQuat.mk 0 0 0 0)))))), (23, (vl 56 6 encEdge es)), (24, (vin es.length)), (25, (vin k))]) (b := [(0, some (bm enc_i64 (tTak false i es k ++ [((k : Nat) : Int)])))]))) ?_
        refine owp_region (oM <| os_range rfl mapB166 rfl (.head _) (by kernel_rfl) rfl (fun r hr => .nil ?_))
        have hrm : r ≠ m := fun e => hr _ (.head _) e.symm
        refine owp_imp (oimp_sim (wk (l := [(1, (vl 56 6 encEdge es)), (5, (.d (.val (.map (some m))))), (7, .own 0 3 1 (tTak false i es k ++ [((k : Nat) : Int)]).length), (8, (vin k)), (10, (vi (pA (tPar false i es k) (es.getD k (REdge.mk 0 0 (RQuat.mk 0 0 0 0)))))), (11, (vi (pB (tPar false i es k) (es.getD k (REdge.mk 0 0 (RQuat.mk 0 0 0 0)))))), (23, (vl 56 6 encEdge es)), (24, (vin es.length)), (25, (vin k)), (46, (.d (.val (.pointer (some ⟨r, 0, none⟩)))))]) (b := [(0, some (bm enc_i64 (tTak false i es k ++ [((k : Nat) : Int)])))]))) ?_
        refine owp_block ?_
        refine owp_loop (α := List Nat × List Int) (fun (s, q) => ⟨⟨[(1, (vl 56 6 encEdge es)), (5, (.d (.val (.map (some m))))), (7, .own 0 3 1 (tTak false i es k ++ [((k : Nat) : Int)]).length), (8, (vin k)), (10, (vi (pA (tPar false i es k) (es.getD k (REdge.mk 0 0 (RQuat.mk 0 0 0 0)))))), (11, (vi (pB (tPar false i es k) (es.getD k (REdge.mk 0 0 (RQuat.mk 0 0 0 0)))))), (23, (vl 56 6 encEdge es)), (24, (vin es.length)), (25, (vin k)), (46, (.d (.val (.pointer (some ⟨r, 0, none⟩)))))], [(0, some (bm enc_i64 (tTak false i es k ++ [((k : Nat) : Int)])))]⟩, [(r, itO m (tPar false i es k).length s), (m, mapO q)]⟩) (fun (s, q) => RlUp (pA (tPar false i es k) (es.getD k (REdge.mk 0 0 (RQuat.mk 0 0 0 0)))) (pB (tPar false i es k) (es.getD k (REdge.mk 0 0 (RQuat.mk 0 0 0 0)))) (tPar false i es k) s q) (fun (s, q) => unseen i s) ([], tPar false i es k) (OImp.refl _) (RlUp_0 _ _ _) ?_
        rintro ⟨s, q⟩ hq
        have hql : (tPar false i es k).length = q.length := hq.1.symm
        have hpl := tPar_len false i es k
        refine owp_seq ?_
        refine owp_region (os_next hql rfl rfl (.head _) (fun x hx => by rcases List.mem_cons.1 hx with rfl | hx; exact hrm.symm; cases hx) (by kernel_rfl) (by kernel_rfl) (nh_cons (nh_map _ _) nh_nil) rfl (fun c hc => ?_))
        cases c with
        | none =>
          refine oE oEx (.nil ?_)
          refine owp_seq ?_
          refine owp_cond (b := false) (by kernel_rfl) (fun h => by cases h) (fun _ => ?_)
          refine owp_exit ?_
          have hend := RlUp_end hq hc
          refine owp_imp (y := ⟨⟨[(1, (vl 56 6 encEdge es)), (5, (.d (.val (.map (some m))))), (7, .own 0 3 1 (tTak false i es (k + 1)).length), (23, (vl 56 6 encEdge es)), (24, (vin es.length)), (25, (vin k))], [(0, some (bm enc_i64 (tTak false i es (k + 1))))]⟩, [(m, mapO (tPar false i es (k + 1)))]⟩) ?_ ?_
          · rw [show tPar false i es (k + 1) = q from q1.trans hend.symm, q2]
            exact (oimp_drop (os' := [(m, mapO q)]) (fun x hx => by rcases List.mem_cons.1 hx with rfl | hx; exact .tail _ (.head _); cases hx)).trans (oimp_sim wk)
          refine owp_lift ?_
          refine kx [(25, (vin (k + 1)))] [] (zE (oAd (k + 1)) <| zM <| zZ) ?_
          exact ⟨k + 1, oimp_sim wk, by omega, by omega⟩
        | some j =>
          obtain ⟨hj1, hj2⟩ := hc
          refine oE oEx (.nil ?_)
          refine owp_seq ?_
          refine owp_cond (b := true) (by kernel_rfl) (fun _ => ?_) (fun h => by cases h)
          refine owp_skip ?_
          refine owp_block ?_
          refine owp_seq ?_
          refine owp_region (.cons (o_entry hql (k := j) (seen := s) rfl rfl (.tail _ (.head _)) (.head _) hj1 (by kernel_rfl) rfl) (oE oEx <| oE oEx <| oM <| oM <| .nil ?_))
          refine owp_imp (oimp_sim (wk (l := [(1, (vl 56 6 encEdge es)), (5, (.d (.val (.map (some m))))), (7, .own 0 3 1 (tTak false i es k ++ [((k : Nat) : Int)]).length), (8, (vin k)), (10, (vi (pA (tPar false i es k) (es.getD k (REdge.mk 0 0 (RQuat.mk 0 0 0 0)))))), (11, (vi (pB (tPar false i es k) (es.getD k (REdge.mk 0 0 (RQuat.mk 0 0 0 0)))))), (23, (vl 56 6 encEdge es)), (24, (vin es.length)), (25, (vin k)), (12, (vin j)), (13, (vi (q.getD j 0))), (46, (.d (.val (.pointer (some ⟨r, 0, none⟩)))))]) (b := [(0, some (bm enc_i64 (tTak false i es k ++ [((k : Nat) : Int)])))]))) ?_
          refine owp_seq ?_
          refine owp_lift ?_
          refine kx [(54, (vb ((q.getD j 0) == (pB (tPar false i es k) (es.getD k (REdge.mk 0 0 (RQuat.mk 0 0 0 0)))))))] [] (zM <| zM <| zE oEq <| zZ) ?_
          refine owp_cond rfl (fun h4 => ?_) (fun h4 => ?_)
          · replace h4 := eq_of_beq h4
            refine owp_imp (y := ⟨_, [(m, mapO q), (r, itO m (tPar false i es k).length (s ++ [j]))]⟩) (oimp_drop (fun x hx => by rcases List.mem_cons.1 hx with rfl | hx; exact .tail _ (.head _); rcases List.mem_cons.1 hx with rfl | hx; exact .head _; cases hx)) ?_
            refine owp_region (oM <| oM <| oM <| .cons (o_set (p := q) (k := j) (v := (pA (tPar false i es k) (es.getD k (REdge.mk 0 0 (RQuat.mk 0 0 0 0))))) rfl mapB166 rfl rfl rfl hj1 (fun x hx => by rcases List.mem_cons.1 hx with rfl | hx; exact hrm; cases hx) (by kernel_rfl) (by kernel_rfl) (nh_cons (nh_map _ _) nh_nil) rfl) (.nil ?_))
            refine ⟨(s ++ [j], q.set j (pA (tPar false i es k) (es.getD k (REdge.mk 0 0 (RQuat.mk 0 0 0 0))))), ?_, RlUp_y hq (by omega) hj2 h4, unseen_lt (by omega) hj2⟩
            exact (oimp_drop (os' := [(r, itO m (tPar false i es k).length (s ++ [j])), (m, mapO (q.set j (pA (tPar false i es k) (es.getD k (REdge.mk 0 0 (RQuat.mk 0 0 0 0))))))]) (fun x hx => by rcases List.mem_cons.1 hx with rfl | hx; exact .tail _ (.head _); rcases List.mem_cons.1 hx with rfl | hx; exact .head _; cases hx)).trans (oimp_sim wk)
          · replace h4 := ne_of_beq_false h4
            refine owp_skip ?_
            exact ⟨(s ++ [j], q), oimp_sim wk, RlUp_n hq (by omega) hj2 h4, unseen_lt (by omega) hj2⟩
    · replace h2 := of_decide_eq_false h2
      obtain rfl : k = es.length := by omega
      refine owp_exit ?_
      refine owp_lift ?_
      refine pwp_seq <| kx [(4, (.own 0 3 1 (tTak false i es es.length).length))] [] (zM <| zM <| zZ) ?_
      refine pwp_sim (publish (t := 4) (k := 0) (es := List.map enc_i64 (tTak false i es es.length)) rfl rfl (pub_cells _ _ (fun _ => rfl)) (map_len _ _ rfl) (pub_take _ _ (fun _ => rfl) rfl)) ?_
      refine pwp_ret ⟨_, (.tmp (d := (.sl 3 1 (List.map enc_i64 (tTak false i es es.length)))) rfl .nil), ?_⟩
      rw [← tTak_eq heo (Nat.le_refl _)]; rfl
end Go.Proofs.YtihgdjljnaekmaaGreat
set_option linter.unusedVariables false
set_option linter.unusedSimpArgs false
namespace Go.Fid
section
variable {P : Program} {S : SL} {B : BS} {o : Oper} {x y : Operand} {k : Nat} {T : TypeId}
theorem bxs_flen {α : Type} {F : α → Dat} {s : Nat} (hF : ∀ g, (F g).cells.length = s) (L : List α) : (flat (L.map F)).length = L.length * s := by
  rw [flat_length (s := s) (fun e he => by obtain ⟨g, _, rfl⟩ := List.mem_map.1 he; exact hF g), List.length_map]
theorem bxs_cell {α : Type} {F : α → Dat} {s : Nat} (hF : ∀ g, (F g).cells.length = s) {L : List α} {j r : Nat} (d : α) (hj : j < L.length) (hr : r < s) : (flat (L.map F))[j * s + r]? = (F (L.getD j d)).cells[r]? :=
  flat_get (s := s) (e := F (L.getD j d)) (fun e he => by obtain ⟨g, _, rfl⟩ := List.mem_map.1 he; exact hF g) (by simp [List.getD_eq_getElem?_getD, List.getElem?_eq_getElem hj]) hr
theorem bxs_room {j n s : Nat} (h : j < n) : j * s + s ≤ n * s := by
  have := Nat.mul_le_mul_right s (show j + 1 ≤ n from h)
  rwa [Nat.add_mul, Nat.one_mul] at this
theorem bxs_cut {α : Type} {F : α → Dat} {s : Nat} (hF : ∀ g, (F g).cells.length = s) {L : List α} {j : Nat} (d : α) (hj : j < L.length) : ((bxs F L).drop (j * s)).take s = (F (L.getD j d)).cells.map SV.d := by
  apply List.ext_getElem?
  intro r
  unfold bxs
  rw [List.getElem?_take]
  split
  · rename_i hr
    rw [List.getElem?_drop, List.getElem?_map, bxs_cell hF d hj hr, List.getElem?_map]
  · rename_i hr
    rw [List.getElem?_eq_none (by rw [List.length_map, hF]; omega)]
theorem oLA {α : Type} {F : α → Dat} {L : List α} {s : Nat} (hs : shapeB P T = some (true, s)) (j : Nat) (d : α) (ho : o.op = .load T x := by exact rfl) (hx : ev (sget S) x = .ref k (j * s) := by exact rfl) (hb : bget B k = some (bxs F L) := by exact rfl) (hF : ∀ g, (F g).cells.length = s := by intro g; kernel_rfl) (hG : ∀ g, gather true ((F g).cells.map SV.d) = .d (F g) := by intro g; kernel_rfl) (h1 : j < L.length := by omega) : ROk P o S B k (.d (F (L.getD j d))) := by
  have h := e_load_ref (P := P) (cs := bxs F L) ho hx hs (fun h => by cases h) (by unfold bxs; rw [List.length_map, bxs_flen hF]; exact bxs_room h1)
  rw [bxs_cut hF d h1, hG] at h
  exact ⟨_, h, hb⟩
theorem bxs_set {α : Type} {F : α → Dat} {s : Nat} (hF : ∀ g, (F g).cells.length = s) {L : List α} {j : Nat} (v : α) (hj : j < L.length) : patch (bxs F L) (j * s) ((F v).cells.map SV.d) = bxs F (L.set j v) := by
  have hl := bxs_flen hF L
  have hl2 := bxs_flen hF (L.set j v)
  rw [List.length_set] at hl2
  have hrm := bxs_room (s := s) hj
  apply List.ext_getElem?
  intro i
  have hb1 : (bxs F L).length = L.length * s := by unfold bxs; rw [List.length_map, hl]
  have hb2 : (bxs F (L.set j v)).length = L.length * s := by unfold bxs; rw [List.length_map, hl2]
  rw [patch_get (by rw [List.length_map, hF, hb1]; exact hrm)]
  by_cases hi : i < L.length * s
  · have hs0 : 0 < s := by
      rcases Nat.eq_zero_or_pos s with h | h
      · subst h; simp at hi
      · exact h
    have hq : i / s < L.length := Nat.div_lt_of_lt_mul (by rw [Nat.mul_comm]; exact hi)
    have hr : i % s < s := Nat.mod_lt _ hs0
    have he : i = (i / s) * s + i % s := by rw [Nat.mul_comm]; exact (Nat.div_add_mod i s).symm
    have e1 : (bxs F (L.set j v))[i]? = ((F ((L.set j v).getD (i / s) v)).cells[i % s]?).map SV.d := by
      unfold bxs; rw [List.getElem?_map]; conv => lhs; rw [he]
      rw [bxs_cell hF v (by rw [List.length_set]; exact hq) hr]
    have e2 : (bxs F L)[i]? = ((F (L.getD (i / s) v)).cells[i % s]?).map SV.d := by
      unfold bxs; rw [List.getElem?_map]; conv => lhs; rw [he]
      rw [bxs_cell hF v hq hr]
    rw [e1, e2, List.length_map, hF]
    by_cases hc : i / s = j
    · have h3 : j * s ≤ i ∧ i < j * s + s := by subst hc; omega
      rw [if_neg (by omega), if_pos h3.2]
      have h4 : (L.set j v).getD (i / s) v = v := by rw [hc, List.getD_eq_getElem?_getD, List.getElem?_set_self hj]; rfl
      rw [h4, List.getElem?_map, show i - j * s = i % s by subst hc; omega]
    · have h3 : ¬ (j * s ≤ i ∧ i < j * s + s) := fun h => hc (by
        have a1 : j ≤ i / s := (Nat.le_div_iff_mul_le hs0).2 h.1
        have a2 : i / s < j + 1 := Nat.div_lt_of_lt_mul (by rw [Nat.mul_comm, Nat.add_mul, Nat.one_mul]; exact h.2)
        omega)
      have h4 : (L.set j v).getD (i / s) v = L.getD (i / s) v := by rw [List.getD_eq_getElem?_getD, List.getElem?_set_ne (fun e => hc e.symm), ← List.getD_eq_getElem?_getD]
      rw [h4]
      split
      · rfl
      · rw [if_neg (fun h => h3 ⟨by omega, h⟩)]
  · have n1 : (bxs F (L.set j v))[i]? = none := List.getElem?_eq_none (by rw [hb2]; omega)
    have n2 : (bxs F L)[i]? = none := List.getElem?_eq_none (by rw [hb1]; omega)
    rw [n1, n2, List.length_map, hF, if_neg (by omega), if_neg (by omega)]
theorem oSA {α : Type} {F : α → Dat} {L : List α} {s : Nat} (hs : shapeB P T = some (true, s)) (j : Nat) (v : α) (ho : o.op = .store T x y := by exact rfl) (hx : ev (sget S) x = .ref k (j * s) := by exact rfl) (hb : bget B k = some (bxs F L) := by exact rfl) (hy : ev (sget S) y = .d (F v) := by kernel_rfl) (h2 : (F v).ok1 = true := by kernel_rfl) (hF : ∀ g, (F g).cells.length = s := by intro g; kernel_rfl) (h1 : j < L.length := by omega) : TK P o S B k (bxs F (L.set j v)) := by
  have h := t_store (P := P) (old := bxs F L) ho hx hy hs (.inl ⟨F v, rfl, h2, rfl⟩) (by rw [List.length_map, hF]) (by unfold bxs; rw [List.length_map, bxs_flen hF]; exact bxs_room h1)
  rw [bxs_set hF v h1] at h
  exact ⟨_, h, hb⟩
theorem flat_repl {α : Type} (F : α → Dat) (z : α) {zd : List Dat} (h : zd = (F z).cells) : ∀ M, (List.replicate M zd).flatten.map SV.d = bxs F (List.replicate M z)
  | 0 => rfl
  | M + 1 => by
    have ih := flat_repl F z h M
    unfold bxs at ih ⊢
    rw [List.replicate_succ, List.flatten_cons, List.map_append, ih, List.replicate_succ, List.map_cons, flat_cons, List.map_append, h]
theorem oMkS {S : Nat → SV} {α : Type} {E : TypeId} {s bytes : Nat} {kl kc : IntKind} {m n : Int} {zv : List Value} {zd : List Dat} (b : Nat) (F : α → Dat) (z : α) (N M : Nat) (hT : elemB P T = some (E, s)) (hz : zeroB P E = some zv) (hzd : ZOk zv zd) (hby : bytesB P E = some bytes) (ho : o.op = .makeSlice T x y := by exact rfl)
    (hl : ev S x = .d (.val (.int kl m)) := by exact rfl) (hc : ev S y = .d (.val (.int kc n)) := by exact rfl) (hlN : m = ((N : Nat) : Int) := by omega) (hcM : n = ((M : Nat) : Int) := by omega) (hzl : Nat.beq zd.length s = true := by kernel_rfl) (hnm : N ≤ M := by omega) (hb : bytes * M ≤ 281474976710656 := by omega) (hm : M ≤ maxLen := by unfold maxLen; omega) (hzF : zd = (F z).cells := by kernel_rfl) :
    NOk P o S b (bxs F (List.replicate M z)) (.own b E s N) := by
  subst hlN; subst hcM
  exact n_mks b ho hT hz hzd (Nat.eq_of_beq_eq_true hzl) hby hl hc hnm hb hm (flat_repl F z hzF M)
theorem oNs {S : Nat → SV} {T T' : TypeId} {c : Nat} (hT : eqsB P T = some c) (k : IntKind) (ms ns : List Int) (ho : o.op = .binOp .neq T x y T' := by exact rfl) (hx : ev S x = .d (.agg (ms.map fun m => .val (.int k m))) := by exact rfl) (hy : ev S y = .d (.agg (ns.map fun m => .val (.int k m))) := by exact rfl) (h1 : ms.length = c := by exact rfl) (h2 : ns.length = c := by exact rfl) : EOk P o S [] (.d (.val (.bool (!(decide (ms = ns)))))) :=
  EOk.same fun a w D β hop _ => by
    have hx' := hop x (by simp [ho, Op.operands])
    have hy' := hop y (by simp [ho, Op.operands])
    rw [hx] at hx'
    rw [hy] at hy'
    have ex := rep_ints hx'
    have ey := rep_ints hy'
    obtain ⟨g1, g2⟩ := run_eqS hT k ms ns h1 h2 w
    refine ⟨.bool (!(decide (ms = ns))), ?_, .val _⟩
    simp [execOp, ho, ex, ey, eqGuard, g2, binOp, g1]
end
end Go.Fid
namespace Go.Proofs.YtihgdjljnaekmaaGreat
open Go.Fid
set_option maxRecDepth 4000
set_option linter.unusedVariables false
set_option linter.unusedSimpArgs false
end Go.Proofs.YtihgdjljnaekmaaGreat
namespace Go.Proofs.YtihgdjljnaekmaaGreat
open Go.Fid
set_option maxRecDepth 4000
set_option linter.unusedVariables false
set_option linter.unusedSimpArgs false
theorem by28 : bytesB Tryz.prog 28 = some 32 := by kernel_rfl
end Go.Proofs.YtihgdjljnaekmaaGreat
set_option linter.unusedVariables false
set_option linter.unusedSimpArgs false
namespace Go.Fid
abbrev FwR := Nat × List Bool × List RQuat
def nxN (x : REdge) (node : Nat) : Option Nat := if ((node : Nat) : Int) = x.fr then some x.to_.toNat else if ((node : Nat) : Int) = x.to_ then some x.fr.toNat else none
def nxU (x : REdge) (node : Nat) (out : List RQuat) : RQuat := if ((node : Nat) : Int) = x.fr then qmul (getQ out node) (qV (qcj x.turn)) else qmul (getQ out node) x.turn
def fwStep (es : List REdge) (rec : Nat → List Bool → List RQuat → FwR) (node i : Nat) (kn : List Bool) (out : List RQuat) : FwR :=
  match nxN (es.getD i e0) node with
  | none => (0, kn, out)
  | some nx => if kn.getD nx false = true then (0, kn, out) else if qC (nxU (es.getD i e0) node out) = 0 then rec nx kn (out.set nx (qV (nxU (es.getD i e0) node out))) else (qC (nxU (es.getD i e0) node out), kn, out.set nx (qV (nxU (es.getD i e0) node out)))
def fwAt (es : List REdge) (tk : List Int) (rec : Nat → List Bool → List RQuat → FwR) (node : Nat) (kn : List Bool) (out : List RQuat) : Nat → FwR
  | 0 => (0, kn, out)
  | k + 1 => if (fwAt es tk rec node kn out k).1 = 0 then fwStep es rec node (tk.getD k 0).toNat (fwAt es tk rec node kn out k).2.1 (fwAt es tk rec node kn out k).2.2 else fwAt es tk rec node kn out k
def flw (es : List REdge) (tk : List Int) : Nat → Nat → List Bool → List RQuat → FwR
  | 0 => fun _ kn out => (0, kn, out)
  | f + 1 => fun node kn out => fwAt es tk (flw es tk f) node (kn.set node true) out tk.length
section
variable {es : List REdge} {tk : List Int} {rec : Nat → List Bool → List RQuat → FwR} {node : Nat} {kn0 : List Bool} {out0 : List RQuat}
theorem fwAt_s {k : Nat} {kn : List Bool} {ou : List RQuat} (h : fwAt es tk rec node kn0 out0 k = (0, kn, ou)) : fwAt es tk rec node kn0 out0 (k + 1) = fwStep es rec node (tk.getD k 0).toNat kn ou := by
  show (if (fwAt es tk rec node kn0 out0 k).1 = 0 then _ else _) = _
  rw [h]; rfl
theorem fwAt_stop {k : Nat} (h : (fwAt es tk rec node kn0 out0 k).1 ≠ 0) : ∀ m, fwAt es tk rec node kn0 out0 (k + m) = fwAt es tk rec node kn0 out0 k
  | 0 => rfl
  | m + 1 => by
    have ih := fwAt_stop h m
    show (if (fwAt es tk rec node kn0 out0 (k + m)).1 = 0 then _ else _) = _
    rw [ih, if_neg h]; exact ih
theorem fwAt_end {k : Nat} {s : FwR} (hk : k < tk.length) (h : fwAt es tk rec node kn0 out0 (k + 1) = s) (hs : s.1 ≠ 0) : fwAt es tk rec node kn0 out0 tk.length = s := by
  have h1 := fwAt_stop (m := tk.length - (k + 1)) (es := es) (tk := tk) (rec := rec) (node := node) (kn0 := kn0) (out0 := out0) (k := k + 1) (by rw [h]; exact hs)
  rw [show k + 1 + (tk.length - (k + 1)) = tk.length by omega] at h1
  rw [h1, h]
theorem st_none {i : Nat} {kn : List Bool} {ou : List RQuat} (h1 : ((node : Nat) : Int) ≠ (es.getD i e0).fr) (h2 : ((node : Nat) : Int) ≠ (es.getD i e0).to_) : fwStep es rec node i kn ou = (0, kn, ou) := by
  unfold fwStep nxN; rw [if_neg h1, if_neg h2]
theorem st_fk {i : Nat} {kn : List Bool} {ou : List RQuat} (h1 : ((node : Nat) : Int) = (es.getD i e0).fr) (h2 : kn.getD (es.getD i e0).to_.toNat false = true) : fwStep es rec node i kn ou = (0, kn, ou) := by
  unfold fwStep nxN; rw [if_pos h1]; simp only [h2, if_true]
theorem st_bk {i : Nat} {kn : List Bool} {ou : List RQuat} (h0 : ((node : Nat) : Int) ≠ (es.getD i e0).fr) (h1 : ((node : Nat) : Int) = (es.getD i e0).to_) (h2 : kn.getD (es.getD i e0).fr.toNat false = true) : fwStep es rec node i kn ou = (0, kn, ou) := by
  unfold fwStep nxN; rw [if_neg h0, if_pos h1]; simp only [h2, if_true]
theorem st_f {i : Nat} {kn : List Bool} {ou : List RQuat} (h1 : ((node : Nat) : Int) = (es.getD i e0).fr) (h2 : kn.getD (es.getD i e0).to_.toNat false = false) :
    fwStep es rec node i kn ou = if qC (qmul (getQ ou node) (qV (qcj (es.getD i e0).turn))) = 0 then rec (es.getD i e0).to_.toNat kn (ou.set (es.getD i e0).to_.toNat (qV (qmul (getQ ou node) (qV (qcj (es.getD i e0).turn))))) else (qC (qmul (getQ ou node) (qV (qcj (es.getD i e0).turn))), kn, ou.set (es.getD i e0).to_.toNat (qV (qmul (getQ ou node) (qV (qcj (es.getD i e0).turn))))) := by
  unfold fwStep nxN nxU
  simp only [if_pos h1, h2, Bool.false_eq_true, if_false]
theorem st_b {i : Nat} {kn : List Bool} {ou : List RQuat} (h0 : ((node : Nat) : Int) ≠ (es.getD i e0).fr) (h1 : ((node : Nat) : Int) = (es.getD i e0).to_) (h2 : kn.getD (es.getD i e0).fr.toNat false = false) :
    fwStep es rec node i kn ou = if qC (qmul (getQ ou node) (es.getD i e0).turn) = 0 then rec (es.getD i e0).fr.toNat kn (ou.set (es.getD i e0).fr.toNat (qV (qmul (getQ ou node) (es.getD i e0).turn))) else (qC (qmul (getQ ou node) (es.getD i e0).turn), kn, ou.set (es.getD i e0).fr.toNat (qV (qmul (getQ ou node) (es.getD i e0).turn))) := by
  unfold fwStep nxN nxU
  simp only [if_neg h0, if_pos h1, h2, Bool.false_eq_true, if_false]
end
def uk (kn : List Bool) : Nat := kn.countP fun b => !b
def FI (n : Nat) (es : List REdge) (kn : List Bool) (out : List RQuat) : Prop := kn.length = n ∧ AbI n es out ∧ ∀ j, j < n → kn.getD j false = true → getQ out j ≠ zQ
def KLe (kn kn' : List Bool) : Prop := ∀ j, kn.getD j false = true → kn'.getD j false = true
theorem KLe.refl (kn : List Bool) : KLe kn kn := fun j h => h
theorem KLe.trans {a b c : List Bool} (h : KLe a b) (g : KLe b c) : KLe a c := fun j hj => g j (h j hj)
theorem kn_set {kn : List Bool} {i j : Nat} (hi : i < kn.length) : (kn.set i true).getD j false = if i = j then true else kn.getD j false := by
  by_cases e : i = j
  · subst e; rw [if_pos rfl, List.getD_eq_getElem?_getD, List.getElem?_set_self hi]; rfl
  · rw [if_neg e, List.getD_eq_getElem?_getD, List.getElem?_set_ne e, ← List.getD_eq_getElem?_getD]
theorem KLe_set {kn : List Bool} {i : Nat} (hi : i < kn.length) : KLe kn (kn.set i true) := fun j hj => by
  rw [kn_set hi]; split
  · rfl
  · exact hj
theorem uk_le : ∀ {kn kn' : List Bool}, kn.length = kn'.length → KLe kn kn' → uk kn' ≤ uk kn
  | [], [], _, _ => Nat.le_refl _
  | [], _ :: _, h, _ => by simp at h
  | _ :: _, [], h, _ => by simp at h
  | a :: l, b :: m, h, hk => by
    have ih := uk_le (kn := l) (kn' := m) (by simpa using h) (fun j hj => by have := hk (j + 1) (by simpa using hj); simpa using this)
    have h0 := hk 0
    simp only [List.getD_cons_zero] at h0
    unfold uk at *
    rw [List.countP_cons, List.countP_cons]
    cases a <;> cases b <;> simp_all <;> omega
theorem uk_set : ∀ {kn : List Bool} {i : Nat}, i < kn.length → kn.getD i false = false → uk (kn.set i true) + 1 = uk kn
  | [], i, h, _ => by simp at h
  | a :: l, 0, h, e => by
    simp only [List.getD_cons_zero] at e
    subst e
    unfold uk; rw [List.set_cons_zero, List.countP_cons, List.countP_cons]; simp
  | a :: l, i + 1, h, e => by
    simp only [List.getD_cons_succ] at e
    have ih := uk_set (kn := l) (i := i) (by simpa using h) e
    unfold uk at *
    rw [List.set_cons_succ, List.countP_cons, List.countP_cons]; omega
section
variable {n : Nat} {es : List REdge}
def nbK (n : Nat) (es : List REdge) (kn : List Bool) (j : Nat) : Prop := ∀ i : Nat, (i : Int) ∈ treL n es → ((es.getD i e0).fr.toNat = j → kn.getD (es.getD i e0).to_.toNat false = true) ∧ ((es.getD i e0).to_.toNat = j → kn.getD (es.getD i e0).fr.toNat false = true)
theorem nbK.mono {kn kn' : List Bool} {j : Nat} (h : nbK n es kn j) (hk : KLe kn kn') : nbK n es kn' j := fun i hi => ⟨fun e => hk _ ((h i hi).1 e), fun e => hk _ ((h i hi).2 e)⟩
structure FwPre (n : Nat) (es : List REdge) (f node : Nat) (kn : List Bool) (out : List RQuat) : Prop where
  fi : FI n es kn out
  nd : node < n
  un : kn.getD node false = false
  nz : getQ out node ≠ zQ
  fuel : uk kn ≤ f
structure FwPost (n : Nat) (es : List REdge) (node : Nat) (kn : List Bool) (r : FwR) : Prop where
  fi : FI n es r.2.1 r.2.2
  le : KLe kn r.2.1
  nd : r.2.1.getD node false = true
  cl : ∀ j, r.2.1.getD j false = true → kn.getD j false = false → nbK n es r.2.1 j
theorem FI.known {kn : List Bool} {out : List RQuat} (h : FI n es kn out) {node : Nat} (hn : node < n) (hz : getQ out node ≠ zQ) : FI n es (kn.set node true) out :=
  ⟨by rw [List.length_set]; exact h.1, h.2.1, fun j hj hk => by
    rw [kn_set (by rw [h.1]; exact hn)] at hk
    split at hk
    · rename_i e; subst e; exact hz
    · exact h.2.2 j hj hk⟩
theorem FI.put (heo : EsOk n es) {kn : List Bool} {out : List RQuat} (h : FI n es kn out) {nx : Nat} (hx : nx < n) (hk : kn.getD nx false = false) {u : RQuat} (hu : Qnz u ∧ Qeq u (aV n es nx)) (hc : qC u = 0) : FI n es kn (out.set nx (qV u)) ∧ getQ (out.set nx (qV u)) nx ≠ zQ := by
  obtain ⟨g1, g2⟩ := ab_yes heo hu.1 hu.2 hc
  have hl : nx < out.length := by rw [h.2.1.1]; exact hx
  refine ⟨⟨h.1, h.2.1.set hx g1 g2, fun j hj hkj => ?_⟩, ?_⟩
  · rw [getQ_set hl]; split
    · rw [g2]; exact can_nzq heo nx
    · exact h.2.2 j hj hkj
  · rw [getQ_set hl, if_pos rfl, g2]; exact can_nzq heo nx
structure FwIn (n : Nat) (es : List REdge) (f node : Nat) (kn0 kn : List Bool) (out : List RQuat) : Prop where
  fi : FI n es kn out
  le : KLe kn0 kn
  nd : kn.getD node false = true
  fuel : uk kn ≤ f
theorem FwIn_0 {f node : Nat} {kn0 : List Bool} {out0 : List RQuat} (h : FwPre n es (f + 1) node kn0 out0) : FwIn n es f node (kn0.set node true) (kn0.set node true) out0 := by
  have hl : node < kn0.length := by rw [h.fi.1]; exact h.nd
  refine ⟨h.fi.known h.nd h.nz, KLe.refl _, by rw [kn_set hl, if_pos rfl], ?_⟩
  have := uk_set hl h.un
  have := h.fuel
  omega
theorem FwIn.next {f node : Nat} {kn0 kn : List Bool} {out : List RQuat} (hi : FwIn n es f node kn0 kn out) {nx : Nat} {r : FwR} (hr : FwPost n es nx kn r) : FwIn n es f node kn0 r.2.1 r.2.2 :=
  ⟨hr.fi, hi.le.trans hr.le, hr.le _ hi.nd, Nat.le_trans (uk_le (by rw [hi.fi.1, hr.fi.1]) hr.le) hi.fuel⟩
theorem fwd_u (heo : EsOk n es) {f node i : Nat} {kn0 kn : List Bool} {out : List RQuat} (hn : node < n) (hi : FwIn n es f node kn0 kn out) (hm : (i : Int) ∈ treL n es) (hl : i < es.length) (e : ((node : Nat) : Int) = (es.getD i e0).fr) :
    Qnz (qmul (getQ out node) (qV (qcj (es.getD i e0).turn))) ∧ Qeq (qmul (getQ out node) (qV (qcj (es.getD i e0).turn))) (aV n es (es.getD i e0).to_.toNat) := by
  have he : (es.getD i e0).fr.toNat = node := by omega
  have h := ab_fwd heo hi.fi.2.1 hm hl (by rw [he]; exact hi.fi.2.2 node hn hi.nd)
  rwa [he] at h
theorem bwd_u (heo : EsOk n es) {f node i : Nat} {kn0 kn : List Bool} {out : List RQuat} (hn : node < n) (hi : FwIn n es f node kn0 kn out) (hm : (i : Int) ∈ treL n es) (hl : i < es.length) (e : ((node : Nat) : Int) = (es.getD i e0).to_) :
    Qnz (qmul (getQ out node) (es.getD i e0).turn) ∧ Qeq (qmul (getQ out node) (es.getD i e0).turn) (aV n es (es.getD i e0).fr.toNat) := by
  have he : (es.getD i e0).to_.toNat = node := by omega
  have h := ab_bwd heo hi.fi.2.1 hm hl (by rw [he]; exact hi.fi.2.2 node hn hi.nd)
  rwa [he] at h
def Fails (n : Nat) (es : List REdge) (r : FwR) : Prop := absC n es = 3 ∧ absL n es = [] ∧ r.1 = 3
def edgeK (es : List REdge) (kn : List Bool) (node i : Nat) : Prop := (((node : Nat) : Int) = (es.getD i e0).fr → kn.getD (es.getD i e0).to_.toNat false = true) ∧ (((node : Nat) : Int) = (es.getD i e0).to_ → kn.getD (es.getD i e0).fr.toNat false = true)
theorem step_ok (heo : EsOk n es) {f node i : Nat} {kn0 kn : List Bool} {out : List RQuat} {rec : Nat → List Bool → List RQuat → FwR} (hrec : ∀ nx k o, FwPre n es f nx k o → ((rec nx k o).1 = 0 → FwPost n es nx k (rec nx k o)) ∧ ((rec nx k o).1 ≠ 0 → Fails n es (rec nx k o)))
    (hn : node < n) (hi : FwIn n es f node kn0 kn out) (hm : (i : Int) ∈ treL n es) (hl : i < es.length) :
    ((fwStep es rec node i kn out).1 = 0 → FwIn n es f node kn0 (fwStep es rec node i kn out).2.1 (fwStep es rec node i kn out).2.2 ∧ KLe kn (fwStep es rec node i kn out).2.1 ∧ edgeK es (fwStep es rec node i kn out).2.1 node i ∧ (∀ j, (fwStep es rec node i kn out).2.1.getD j false = true → kn.getD j false = false → nbK n es (fwStep es rec node i kn out).2.1 j)) ∧
    ((fwStep es rec node i kn out).1 ≠ 0 → Fails n es (fwStep es rec node i kn out)) := by
  have hx := eget heo hl
  have x0 := hx.f0; have x1 := hx.f1; have x2 := hx.t0; have x3 := hx.t1; have x4 := hx.ne
  by_cases e1 : ((node : Nat) : Int) = (es.getD i e0).fr
  · have e2 : ((node : Nat) : Int) ≠ (es.getD i e0).to_ := fun e => x4 (e1.symm.trans e)
    by_cases hk : kn.getD (es.getD i e0).to_.toNat false = true
    · rw [st_fk e1 hk]
      exact ⟨fun _ => ⟨hi, KLe.refl _, ⟨fun _ => hk, fun e => absurd e e2⟩, fun j h1 h2 => by rw [h1] at h2; cases h2⟩, fun h => absurd rfl h⟩
    · have hk : kn.getD (es.getD i e0).to_.toNat false = false := by simpa using hk
      have hu := fwd_u heo hn hi hm hl e1
      rw [st_f e1 hk]
      by_cases hc : qC (qmul (getQ out node) (qV (qcj (es.getD i e0).turn))) = 0
      · rw [if_pos hc]
        obtain ⟨g1, g2⟩ := hi.fi.put heo (by omega) hk hu hc
        obtain ⟨r1, r2⟩ := hrec _ _ _ ⟨g1, by omega, hk, g2, hi.fuel⟩
        exact ⟨fun h => ⟨hi.next (r1 h), (r1 h).le, ⟨fun _ => (r1 h).nd, fun e => absurd e e2⟩, (r1 h).cl⟩, r2⟩
      · rw [if_neg hc]
        obtain ⟨g1, g2, g3⟩ := ab_no heo (j := (es.getD i e0).to_.toNat) (by omega) hu.1 hu.2 hc
        exact ⟨fun h => absurd h hc, fun _ => ⟨g1, g2, g3⟩⟩
  · by_cases e2 : ((node : Nat) : Int) = (es.getD i e0).to_
    · by_cases hk : kn.getD (es.getD i e0).fr.toNat false = true
      · rw [st_bk e1 e2 hk]
        exact ⟨fun _ => ⟨hi, KLe.refl _, ⟨fun e => absurd e e1, fun _ => hk⟩, fun j h1 h2 => by rw [h1] at h2; cases h2⟩, fun h => absurd rfl h⟩
      · have hk : kn.getD (es.getD i e0).fr.toNat false = false := by simpa using hk
        have hu := bwd_u heo hn hi hm hl e2
        rw [st_b e1 e2 hk]
        by_cases hc : qC (qmul (getQ out node) (es.getD i e0).turn) = 0
        · rw [if_pos hc]
          obtain ⟨g1, g2⟩ := hi.fi.put heo (by omega) hk hu hc
          obtain ⟨r1, r2⟩ := hrec _ _ _ ⟨g1, by omega, hk, g2, hi.fuel⟩
          exact ⟨fun h => ⟨hi.next (r1 h), (r1 h).le, ⟨fun e => absurd e e1, fun _ => (r1 h).nd⟩, (r1 h).cl⟩, r2⟩
        · rw [if_neg hc]
          obtain ⟨g1, g2, g3⟩ := ab_no heo (j := (es.getD i e0).fr.toNat) (by omega) hu.1 hu.2 hc
          exact ⟨fun h => absurd h hc, fun _ => ⟨g1, g2, g3⟩⟩
    · rw [st_none e1 e2]
      exact ⟨fun _ => ⟨hi, KLe.refl _, ⟨fun e => absurd e e1, fun e => absurd e e2⟩, fun j h1 h2 => by rw [h1] at h2; cases h2⟩, fun h => absurd rfl h⟩
theorem edgeK.mono {kn kn' : List Bool} {node i : Nat} (h : edgeK es kn node i) (hk : KLe kn kn') : edgeK es kn' node i := ⟨fun e => hk _ (h.1 e), fun e => hk _ (h.2 e)⟩
theorem at_ok (heo : EsOk n es) {f node : Nat} {kn0 : List Bool} {out0 : List RQuat} {rec : Nat → List Bool → List RQuat → FwR} (hrec : ∀ nx k o, FwPre n es f nx k o → ((rec nx k o).1 = 0 → FwPost n es nx k (rec nx k o)) ∧ ((rec nx k o).1 ≠ 0 → Fails n es (rec nx k o)))
    (hn : node < n) (h0 : FwIn n es f node kn0 kn0 out0) : ∀ k, k ≤ (treL n es).length →
    ((fwAt es (treL n es) rec node kn0 out0 k).1 = 0 → FwIn n es f node kn0 (fwAt es (treL n es) rec node kn0 out0 k).2.1 (fwAt es (treL n es) rec node kn0 out0 k).2.2 ∧
      (∀ m, m < k → edgeK es (fwAt es (treL n es) rec node kn0 out0 k).2.1 node ((treL n es).getD m 0).toNat) ∧ (∀ j, (fwAt es (treL n es) rec node kn0 out0 k).2.1.getD j false = true → kn0.getD j false = false → nbK n es (fwAt es (treL n es) rec node kn0 out0 k).2.1 j)) ∧
    ((fwAt es (treL n es) rec node kn0 out0 k).1 ≠ 0 → Fails n es (fwAt es (treL n es) rec node kn0 out0 k))
  | 0, _ => ⟨fun _ => ⟨h0, fun m hm => by omega, fun j h1 h2 => by have h1 : kn0.getD j false = true := h1; rw [h1] at h2; cases h2⟩, fun h => absurd rfl h⟩
  | k + 1, hk => by
    obtain ⟨ih1, ih2⟩ := at_ok heo hrec hn h0 k (by omega)
    obtain ⟨i, hil, hit, him⟩ := tre_at (n := n) (es := es) (k := k) (by omega)
    have hiN : ((treL n es).getD k 0).toNat = i := by rw [hit]; rfl
    have hdef : fwAt es (treL n es) rec node kn0 out0 (k + 1) = if (fwAt es (treL n es) rec node kn0 out0 k).1 = 0 then fwStep es rec node ((treL n es).getD k 0).toNat (fwAt es (treL n es) rec node kn0 out0 k).2.1 (fwAt es (treL n es) rec node kn0 out0 k).2.2 else fwAt es (treL n es) rec node kn0 out0 k := rfl
    rw [hdef]
    by_cases hz : (fwAt es (treL n es) rec node kn0 out0 k).1 = 0
    · rw [if_pos hz]
      obtain ⟨a1, a2, a3⟩ := ih1 hz
      obtain ⟨s1, s2⟩ := step_ok heo hrec hn a1 him hil
      rw [hiN]
      refine ⟨fun h => ?_, s2⟩
      obtain ⟨b1, b2, b3, b4⟩ := s1 h
      refine ⟨b1, fun m hm => ?_, fun j h1 h2 => ?_⟩
      · by_cases e : m = k
        · subst e; rw [hiN]; exact b3
        · exact (a2 m (by omega)).mono b2
      · by_cases hkj : (fwAt es (treL n es) rec node kn0 out0 k).2.1.getD j false = true
        · exact (a3 j hkj h2).mono b2
        · exact b4 j h1 (by simpa using hkj)
    · rw [if_neg hz]
      exact ⟨fun h => absurd h hz, ih2⟩
theorem flw_ok (heo : EsOk n es) : ∀ (f node : Nat) (kn : List Bool) (out : List RQuat), FwPre n es f node kn out →
    ((flw es (treL n es) f node kn out).1 = 0 → FwPost n es node kn (flw es (treL n es) f node kn out)) ∧ ((flw es (treL n es) f node kn out).1 ≠ 0 → Fails n es (flw es (treL n es) f node kn out))
  | 0, node, kn, out, h => by
    exfalso
    have hl : node < kn.length := by rw [h.fi.1]; exact h.nd
    have := uk_set hl h.un
    have := h.fuel
    omega
  | f + 1, node, kn, out, h => by
    have hl : node < kn.length := by rw [h.fi.1]; exact h.nd
    have h0 := FwIn_0 h
    have ha := at_ok heo (rec := flw es (treL n es) f) (fun nx k o hp => flw_ok heo f nx k o hp) h.nd h0 (treL n es).length (Nat.le_refl _)
    show ((fwAt es (treL n es) (flw es (treL n es) f) node (kn.set node true) out (treL n es).length).1 = 0 → FwPost n es node kn (fwAt es (treL n es) (flw es (treL n es) f) node (kn.set node true) out (treL n es).length)) ∧ _
    refine ⟨fun hz => ?_, ha.2⟩
    obtain ⟨a1, a2, a3⟩ := ha.1 hz
    refine ⟨a1.fi, (KLe_set hl).trans a1.le, a1.nd, fun j h1 h2 => ?_⟩
    by_cases e : node = j
    · subst e
      intro i hi
      obtain ⟨m, hm, hmi⟩ := List.getElem_of_mem hi
      have h3 := a2 m hm
      rw [List.getD_eq_getElem?_getD, List.getElem?_eq_getElem hm, Option.getD_some, hmi] at h3
      have hx := eget heo (k := i) (by obtain ⟨q, hq, e⟩ := tTak_mem hi; omega)
      have x0 := hx.f0; have x2 := hx.t0
      exact ⟨fun e => h3.1 (by show ((node : Nat) : Int) = (es.getD i e0).fr; omega), fun e => h3.2 (by show ((node : Nat) : Int) = (es.getD i e0).to_; omega)⟩
    · exact a3 j h1 (by rw [kn_set hl, if_neg e]; exact h2)
structure AlI (n : Nat) (es : List REdge) (i : Nat) (kn : List Bool) (out : List RQuat) : Prop where
  fi : FI n es kn out
  up : ∀ j, j < i → kn.getD j false = true
  cl : ∀ j, kn.getD j false = true → nbK n es kn j
theorem AlI_0 : AlI n es 0 (List.replicate n false) (List.replicate n zQ) := by
  have hk : ∀ j, (List.replicate n false).getD j false = false := fun j => by
    rw [List.getD_eq_getElem?_getD, List.getElem?_replicate]; split <;> rfl
  refine ⟨⟨by simp, ⟨by simp, fun j hj => .inl ?_⟩, fun j hj h => by rw [hk] at h; cases h⟩, fun j hj => by omega, fun j h => by rw [hk] at h; cases h⟩
  unfold getQ; simp [List.getD_eq_getElem?_getD, hj]
theorem AlI.skip {i : Nat} {kn : List Bool} {out : List RQuat} (h : AlI n es i kn out) (hk : kn.getD i false = true) : AlI n es (i + 1) kn out :=
  ⟨h.fi, fun j hj => by
    by_cases e : j = i
    · subst e; exact hk
    · exact h.up j (by omega), h.cl⟩
theorem AlI.root (heo : EsOk n es) {i : Nat} {kn : List Bool} {out : List RQuat} (h : AlI n es i kn out) (hi : i < n) (hk : kn.getD i false = false) : aV n es i = q1 := by
  have rj := tPar_rng heo (Nat.le_refl es.length) hi
  refine tV_root heo (Nat.le_refl es.length) hi ?_
  apply Classical.byContradiction
  intro hne
  have hlt : ((tPar true n es es.length).getD i 0).toNat < i := by omega
  have hcl := tPar_closed heo (fun j => kn.getD j false = true) (Nat.le_refl es.length) (fun q hq => by
    exact ⟨fun e => (h.cl _ e q hq).1 rfl, fun e => (h.cl _ e q hq).2 rfl⟩) (i := ((tPar true n es es.length).getD i 0).toNat) (j := i) (by omega) hi (tPar_root heo (Nat.le_refl es.length) hi)
  have := hcl.1 (h.up _ hlt)
  rw [this] at hk; cases hk
theorem AlI.pre (heo : EsOk n es) {i : Nat} {kn : List Bool} {out : List RQuat} (h : AlI n es i kn out) (hi : i < n) (hk : kn.getD i false = false) : FwPre n es n i kn (out.set i q1) := by
  have hl : i < out.length := by rw [h.fi.2.1.1]; exact hi
  have hr := h.root heo hi hk
  refine ⟨⟨h.fi.1, h.fi.2.1.set hi (by rw [hr, q1_can]; exact q1_ok.2) (by rw [hr, q1_can]), fun j hj hkj => ?_⟩, hi, hk, by rw [getQ_set hl, if_pos rfl]; exact q1_nz, ?_⟩
  · rw [getQ_set hl]; split
    · exact q1_nz
    · exact h.fi.2.2 j hj hkj
  · unfold uk
    exact Nat.le_trans List.countP_le_length (by rw [h.fi.1]; exact Nat.le_refl _)
theorem AlI.next {i : Nat} {kn : List Bool} {out : List RQuat} (h : AlI n es i kn out) {r : FwR} (hr : FwPost n es i kn r) : AlI n es (i + 1) r.2.1 r.2.2 := by
  refine ⟨hr.fi, fun j hj => ?_, fun j hj => ?_⟩
  · by_cases e : j = i
    · subst e; exact hr.nd
    · exact hr.le _ (h.up j (by omega))
  · by_cases hk : kn.getD j false = true
    · exact (h.cl j hk).mono hr.le
    · exact hr.cl j hj (by simpa using hk)
theorem AlI.end_ (heo : EsOk n es) {i : Nat} {kn : List Bool} {out : List RQuat} (h : AlI n es i kn out) (hi : i = n) : out = absL n es ∧ absC n es = 0 := by
  subst hi
  have hall : ∀ j, j < i → getQ out j ≠ zQ := fun j hj => h.fi.2.2 j hj (h.up j hj)
  refine ab_all heo h.fi.2.1 (fun j hj _ => hall j hj) fun q hq => ?_
  obtain ⟨q', hq', e⟩ := tTak_mem hq
  have hx := eget heo (k := q) (by omega)
  have x0 := hx.f0; have x1 := hx.f1; have x2 := hx.t0; have x3 := hx.t1
  exact ⟨fun _ => hall _ (by omega), fun _ => hall _ (by omega)⟩
end
end Go.Fid
