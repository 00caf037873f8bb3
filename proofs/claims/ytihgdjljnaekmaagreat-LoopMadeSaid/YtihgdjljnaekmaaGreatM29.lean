/- Part 29 of a proof: rules, plain facts, and functions walked. -/
import Derived.Test.YtihgdjljnaekmaaGreatM28
import Derived.Test.YtihgdjljnaekmaaGreatM23
import Derived.Test.YtihgdjljnaekmaaGreatM27
namespace Go.Proofs.YtihgdjljnaekmaaGreat
open Go.Fid
set_option maxRecDepth 4000
set_option linter.unusedVariables false
set_option linter.unusedSimpArgs false
theorem cb71 : callB Tryz.prog 71 = true := by kernel_rfl
theorem mapB166 : mapB Tryz.prog 166 = true := by kernel_rfl
set_option maxHeartbeats 1000000 in
theorem l_tree (n : Nat) (es : List jC) (heo : vS n es) (hn : n ≤ 64) (hl2 : es.length ≤ 256) : jZ Tryz.prog 71 [(.val (.int .i64 ((n : Nat) : Int))), (.sl 56 6 (List.map jK es))] (.sl 3 1 (List.map jP (jO n es))) := by
 refine jL Tryz.func71 rfl cb71 rfl ?_
 show qS _ _ _ _ ⟨[(0, (jQ n)), (1, (vl 56 6 jK es))], []⟩
 refine owp_down ?_
 refine vB ?_
 refine xG ?_
 refine kx [] [] (zE (oNl 3 1) <| zZ) ?_
 refine vB ?_
 refine mF (os_make rfl mapB166 (by kernel_rfl) rfl (fun m _ => ?_))
 refine oM (.nil ?_)
 refine cT (zB (wk (l := [(0, (jQ n)), (1, (vl 56 6 jK es)), (5, (.d (.val (.map (some m)))))]) (b := []))) ?_
 refine vB ?_
 refine vB ?_
 refine xG ?_
 refine kx [(15, (jQ n)), (16, (jQ 0))] [] (zM <| zM <| zZ) ?_
 refine cV ?_
 refine owp_loop (α := Nat) (fun i => ⟨⟨[(1, (vl 56 6 jK es)), (5, (.d (.val (.map (some m))))), (15, (jQ n)), (16, (jQ i))], []⟩, [(m, gR (ini i))]⟩) (fun i => i ≤ n) (fun i => n - i) 0 (zB wk) (Nat.zero_le _) ?_
 intro i hi
 refine vB ?_
 refine xG ?_
 refine kx [(17, (vb (decide (((i : Nat) : Int) < ((n : Nat) : Int)))))] [] (zE uP <| zZ) ?_
 refine vB ?_
 refine fN rfl (fun h1 => ?_) (fun h1 => ?_)
 ·replace h1 := of_decide_eq_true h1
  refine owp_skip ?_
  refine vB ?_
  refine cV ?_
  refine vB ?_
  refine xG ?_
  refine kx [(6, (jQ i))] [] (zM <| zM <| zZ) ?_
  refine mF (oM <| oM <| oM <| .cons (o_ins (p := ini i) (v := ((i : Nat) : Int)) rfl mapB166 rfl (by rw [ini_len]; rfl) rfl (fun q hq => by cases hq) (by kernel_rfl) (by kernel_rfl) nh_nil rfl) (.nil ?_))
  refine cT (y := ⟨⟨[(1, (vl 56 6 jK es)), (5, (.d (.val (.map (some m))))), (15, (jQ n)), (16, (jQ i))], []⟩, [(m, gR (ini (i + 1)))]⟩) (by rw [ini_s]; exact zB wk) ?_
  refine xG ?_
  refine kx [(16, (jQ (i + 1)))] [] (zE (qQ (i + 1)) <| zM <| zZ) ?_
  exact ⟨i + 1, zB wk, by omega, by omega⟩
 ·replace h1 := of_decide_eq_false h1
  obtain rfl : i = n := by omega
  refine owp_exit ?_
  refine vB ?_
  refine xG ?_
  refine kx [(7, (.own 0 3 1 0))] [(0, some (bm jP []))] (zO 0 3 1 <| zZ) ?_
  refine vB ?_
  refine vB ?_
  refine xG ?_
  refine kx [(23, (vl 56 6 jK es)), (24, (jQ es.length)), (25, (jQ 0))] [] (zM <| zE (xA gQ) <| zM <| zZ) ?_
  refine cV ?_
  refine owp_loop (α := Nat) (fun k => ⟨⟨[(1, (vl 56 6 jK es)), (5, (.d (.val (.map (some m))))), (7, .own 0 3 1 (zJ false i es k).length), (23, (vl 56 6 jK es)), (24, (jQ es.length)), (25, (jQ k))], [(0, some (bm jP (zJ false i es k)))]⟩, [(m, gR (kN false i es k))]⟩) (fun k => k ≤ es.length) (fun k => es.length - k) 0 (zB wk) (Nat.zero_le _) ?_
  intro k hk
  refine vB ?_
  refine xG ?_
  refine kx [(26, (vb (decide (((k : Nat) : Int) < ((es.length : Nat) : Int)))))] [] (zE uP <| zZ) ?_
  refine vB ?_
  refine fN rfl (fun h2 => ?_) (fun h2 => ?_)
  ·replace h2 := of_decide_eq_true h2
   have hkl : k < es.length := by omega
   obtain ⟨hx0, hx1, hx2, hx3⟩ := pA_in heo hkl false
   have htl := tTak_len false i es k
   refine owp_skip ?_
   refine vB ?_
   refine cV ?_
   refine vB ?_
   refine xG ?_
   refine kx [(8, (jQ k)), (9, (.ref 1 0))] [(1, some (bx (jK (es.getD k (jC.mk 0 0 (jB.mk 0 0 0 0))))))] (zM <| zE (yO gQ k (jC.mk 0 0 (jB.mk 0 0 0 0))) <| zE (eN hP) <| zH (uQ 1 fK zo56) <| zM <| zT (kZ hP) <| zZ) ?_
   refine vB ?_
   refine cT (oimp_hob (t := 5) rfl (.head _) rfl) ?_
   refine xG ?_
   refine kd [(10, (vi (pA (kN false i es k) (es.getD k (jC.mk 0 0 (jB.mk 0 0 0 0)))))), (11, (vi (pB (kN false i es k) (es.getD k (jC.mk 0 0 (jB.mk 0 0 0 0))))))] [] mo (wM <| wE (kQ vY) <| wR (kM qA) <| wE (e_lookZ (by exact rfl) mapB166 (by exact rfl) (by exact rfl) hx0 hx1) <| wM <| wE (kQ xD) <| wR (kM qA) <| wE (e_lookZ (by exact rfl) mapB166 (by exact rfl) (by exact rfl) hx2 hx3) <| wM <| wM <| wZ) ?_
   refine cT (zB ((simp_hob (t := 5) rfl).trans (wk (l := [(1, (vl 56 6 jK es)), (5, (.d (.val (.map (some m))))), (7, .own 0 3 1 (zJ false i es k).length), (8, (jQ k)), (10, (vi (pA (kN false i es k) (es.getD k (jC.mk 0 0 (jB.mk 0 0 0 0)))))), (11, (vi (pB (kN false i es k) (es.getD k (jC.mk 0 0 (jB.mk 0 0 0 0)))))), (23, (vl 56 6 jK es)), (24, (jQ es.length)), (25, (jQ k))]) (b := [(0, some (bm jP (zJ false i es k)))])))) ?_
   refine vB ?_
   refine vB ?_
   refine xG ?_
   refine kx [(40, (vb ((pA (kN false i es k) (es.getD k (jC.mk 0 0 (jB.mk 0 0 0 0)))) == (pB (kN false i es k) (es.getD k (jC.mk 0 0 (jB.mk 0 0 0 0)))))))] [] (zM <| zM <| zE gF <| zZ) ?_
   refine fN rfl (fun h3 => ?_) (fun h3 => ?_)
   ·replace h3 := eq_of_beq h3
    obtain ⟨q1, q2⟩ := hM (g := false) (n := i) (es := es) (k := k) h3
    refine owp_exit ?_
    refine xG ?_
    refine kx [(25, (jQ (k + 1)))] [] (zE (qQ (k + 1)) <| zM <| zZ) ?_
    refine ⟨k + 1, ?_, by omega, by omega⟩
    show OImp _ ⟨⟨[(1, (vl 56 6 jK es)), (5, (.d (.val (.map (some m))))), (7, .own 0 3 1 (zJ false i es (k + 1)).length), (23, (vl 56 6 jK es)), (24, (jQ es.length)), (25, (jQ (k + 1)))], [(0, some (bm jP (zJ false i es (k + 1))))]⟩, [(m, gR (kN false i es (k + 1)))]⟩
    rw [q1, q2]; exact zB wk
   ·replace h3 := ne_of_beq_false h3
    obtain ⟨q1, q2⟩ := hO (g := false) (n := i) (es := es) (k := k) h3
    refine owp_skip ?_
    refine vB ?_
    refine xG ?_
    refine kf [(7, .own 0 3 1 (zJ false i es k ++ [((k : Nat) : Int)]).length)] [(0, some (bm jP (zJ false i es k ++ [((k : Nat) : Int)])))] (zM <| zM <| zE (aA uT ze3 zo3) <| zA jP (zJ false i es k) [((k : Nat) : Int)] rfl uT ze3 by3 (hbig := by exact (by simp only [List.length_cons, List.length_nil, maxLen]; omega)) (hbig' := by exact (by simp only [List.length_cons, List.length_nil]; omega)) <| zM <| zF) ?_
    refine vB ?_
    refine cT (zB (wk (l := [(1, (vl 56 6 jK es)), (5, (.d (.val (.map (some m))))), (7, .own 0 3 1 (zJ false i es k ++ [((k : Nat) : Int)]).length), (8, (jQ k)), (10, (vi (pA (kN false i es k) (es.getD k (jC.mk 0 0 (jB.mk 0 0 0 0)))))), (11, (vi (pB (kN false i es k) (es.getD k (jC.mk 0 0 (jB.mk 0 0 0 0)))))), (23, (vl 56 6 jK es)), (24, (jQ es.length)), (25, (jQ k))]) (b := [(0, some (bm jP (zJ false i es k ++ [((k : Nat) : Int)])))]))) ?_
    refine mF (oM <| os_range rfl mapB166 rfl (.head _) (by kernel_rfl) rfl (fun r hr => .nil ?_))
    have hrm : r ≠ m := fun e => hr _ (.head _) e.symm
    refine cT (zB (wk (l := [(1, (vl 56 6 jK es)), (5, (.d (.val (.map (some m))))), (7, .own 0 3 1 (zJ false i es k ++ [((k : Nat) : Int)]).length), (8, (jQ k)), (10, (vi (pA (kN false i es k) (es.getD k (jC.mk 0 0 (jB.mk 0 0 0 0)))))), (11, (vi (pB (kN false i es k) (es.getD k (jC.mk 0 0 (jB.mk 0 0 0 0)))))), (23, (vl 56 6 jK es)), (24, (jQ es.length)), (25, (jQ k)), (46, (.d (.val (.pointer (some ⟨r, 0, none⟩)))))]) (b := [(0, some (bm jP (zJ false i es k ++ [((k : Nat) : Int)])))]))) ?_
    refine cV ?_
    refine owp_loop (α := List Nat × List Int) (fun (s, q) => ⟨⟨[(1, (vl 56 6 jK es)), (5, (.d (.val (.map (some m))))), (7, .own 0 3 1 (zJ false i es k ++ [((k : Nat) : Int)]).length), (8, (jQ k)), (10, (vi (pA (kN false i es k) (es.getD k (jC.mk 0 0 (jB.mk 0 0 0 0)))))), (11, (vi (pB (kN false i es k) (es.getD k (jC.mk 0 0 (jB.mk 0 0 0 0)))))), (23, (vl 56 6 jK es)), (24, (jQ es.length)), (25, (jQ k)), (46, (.d (.val (.pointer (some ⟨r, 0, none⟩)))))], [(0, some (bm jP (zJ false i es k ++ [((k : Nat) : Int)])))]⟩, [(r, itO m (kN false i es k).length s), (m, gR q)]⟩) (fun (s, q) => RlUp (pA (kN false i es k) (es.getD k (jC.mk 0 0 (jB.mk 0 0 0 0)))) (pB (kN false i es k) (es.getD k (jC.mk 0 0 (jB.mk 0 0 0 0)))) (kN false i es k) s q) (fun (s, q) => unseen i s) ([], kN false i es k) (OImp.refl _) (RlUp_0 _ _ _) ?_
    rintro ⟨s, q⟩ hq
    have hql : (kN false i es k).length = q.length := hq.1.symm
    have hpl := yE false i es k
    refine vB ?_
    refine mF (os_next hql rfl rfl (.head _) (fun x hx => by rcases List.mem_cons.1 hx with rfl | hx; exact hrm.symm; cases hx) (by kernel_rfl) (by kernel_rfl) (nh_cons (nh_map _ _) nh_nil) rfl (fun c hc => ?_))
    cases c with
    | none =>
     refine oE qG (.nil ?_)
     refine vB ?_
     refine fN (b := false) (by kernel_rfl) (fun h => by cases h) (fun _ => ?_)
     refine owp_exit ?_
     have hend := RlUp_end hq hc
     refine cT (y := ⟨⟨[(1, (vl 56 6 jK es)), (5, (.d (.val (.map (some m))))), (7, .own 0 3 1 (zJ false i es (k + 1)).length), (23, (vl 56 6 jK es)), (24, (jQ es.length)), (25, (jQ k))], [(0, some (bm jP (zJ false i es (k + 1))))]⟩, [(m, gR (kN false i es (k + 1)))]⟩) ?_ ?_
     ·rw [show kN false i es (k + 1) = q from q1.trans hend.symm, q2]
      exact (oimp_drop (os' := [(m, gR q)]) (fun x hx => by rcases List.mem_cons.1 hx with rfl | hx; exact .tail _ (.head _); cases hx)).trans (zB wk)
     refine xG ?_
     refine kx [(25, (jQ (k + 1)))] [] (zE (qQ (k + 1)) <| zM <| zZ) ?_
     exact ⟨k + 1, zB wk, by omega, by omega⟩
    | some j =>
     obtain ⟨hj1, hj2⟩ := hc
     refine oE qG (.nil ?_)
     refine vB ?_
     refine fN (b := true) (by kernel_rfl) (fun _ => ?_) (fun h => by cases h)
     refine owp_skip ?_
     refine cV ?_
     refine vB ?_
     refine mF (.cons (o_entry hql (k := j) (seen := s) rfl rfl (.tail _ (.head _)) (.head _) hj1 (by kernel_rfl) rfl) (oE qG <| oE qG <| oM <| oM <| .nil ?_))
     refine cT (zB (wk (l := [(1, (vl 56 6 jK es)), (5, (.d (.val (.map (some m))))), (7, .own 0 3 1 (zJ false i es k ++ [((k : Nat) : Int)]).length), (8, (jQ k)), (10, (vi (pA (kN false i es k) (es.getD k (jC.mk 0 0 (jB.mk 0 0 0 0)))))), (11, (vi (pB (kN false i es k) (es.getD k (jC.mk 0 0 (jB.mk 0 0 0 0)))))), (23, (vl 56 6 jK es)), (24, (jQ es.length)), (25, (jQ k)), (12, (jQ j)), (13, (vi (q.getD j 0))), (46, (.d (.val (.pointer (some ⟨r, 0, none⟩)))))]) (b := [(0, some (bm jP (zJ false i es k ++ [((k : Nat) : Int)])))]))) ?_
     refine vB ?_
     refine xG ?_
     refine kx [(54, (vb ((q.getD j 0) == (pB (kN false i es k) (es.getD k (jC.mk 0 0 (jB.mk 0 0 0 0)))))))] [] (zM <| zM <| zE gF <| zZ) ?_
     refine fN rfl (fun h4 => ?_) (fun h4 => ?_)
     ·replace h4 := eq_of_beq h4
      refine cT (y := ⟨_, [(m, gR q), (r, itO m (kN false i es k).length (s ++ [j]))]⟩) (oimp_drop (fun x hx => by rcases List.mem_cons.1 hx with rfl | hx; exact .tail _ (.head _); rcases List.mem_cons.1 hx with rfl | hx; exact .head _; cases hx)) ?_
      refine mF (oM <| oM <| oM <| .cons (o_set (p := q) (k := j) (v := (pA (kN false i es k) (es.getD k (jC.mk 0 0 (jB.mk 0 0 0 0))))) rfl mapB166 rfl rfl rfl hj1 (fun x hx => by rcases List.mem_cons.1 hx with rfl | hx; exact hrm; cases hx) (by kernel_rfl) (by kernel_rfl) (nh_cons (nh_map _ _) nh_nil) rfl) (.nil ?_))
      refine ⟨(s ++ [j], q.set j (pA (kN false i es k) (es.getD k (jC.mk 0 0 (jB.mk 0 0 0 0))))), ?_, RlUp_y hq (by omega) hj2 h4, unseen_lt (by omega) hj2⟩
      exact (oimp_drop (os' := [(r, itO m (kN false i es k).length (s ++ [j])), (m, gR (q.set j (pA (kN false i es k) (es.getD k (jC.mk 0 0 (jB.mk 0 0 0 0))))))]) (fun x hx => by rcases List.mem_cons.1 hx with rfl | hx; exact .tail _ (.head _); rcases List.mem_cons.1 hx with rfl | hx; exact .head _; cases hx)).trans (zB wk)
     ·replace h4 := ne_of_beq_false h4
      refine owp_skip ?_
      exact ⟨(s ++ [j], q), zB wk, RlUp_n hq (by omega) hj2 h4, unseen_lt (by omega) hj2⟩
  ·replace h2 := of_decide_eq_false h2
   obtain rfl : k = es.length := by omega
   refine owp_exit ?_
   refine xG ?_
   refine jA <| kx [(4, (.own 0 3 1 (zJ false i es es.length).length))] [] (zM <| zM <| zZ) ?_
   refine kY (vV (t := 4) (k := 0) (es := List.map jP (zJ false i es es.length)) rfl rfl (uO _ _ (fun _ => rfl)) (uS _ _ rfl) (vE _ _ (fun _ => rfl) rfl)) ?_
   refine jI ⟨_, (.tmp (d := (.sl 3 1 (List.map jP (zJ false i es es.length)))) rfl .nil), ?_⟩
   rw [← tTak_eq heo (Nat.le_refl _)]; rfl
end Go.Proofs.YtihgdjljnaekmaaGreat
set_option linter.unusedVariables false
set_option linter.unusedSimpArgs false
namespace Go.Fid
section
variable {P : Program} {S : SL} {B : BS} {o : Oper} {x y : Operand} {k : Nat} {T : TypeId}
theorem bxs_flen {α : Type} {F : α → kE} {s : Nat} (hF : ∀ g, (F g).cells.length = s) (L : List α) : (flat (L.map F)).length = L.length * s := by
  rw [uH (s := s) (fun e he => by obtain ⟨g, _, rfl⟩ := List.mem_map.1 he; exact hF g), List.length_map]
theorem bxs_cell {α : Type} {F : α → kE} {s : Nat} (hF : ∀ g, (F g).cells.length = s) {L : List α} {j r : Nat} (d : α) (hj : j < L.length) (hr : r < s) : (flat (L.map F))[j * s + r]? = (F (L.getD j d)).cells[r]? :=
  flat_get (s := s) (e := F (L.getD j d)) (fun e he => by obtain ⟨g, _, rfl⟩ := List.mem_map.1 he; exact hF g) (by simp [List.getD_eq_getElem?_getD, List.getElem?_eq_getElem hj]) hr
theorem bxs_room {j n s : Nat} (h : j < n) : j * s + s ≤ n * s := by
  have := Nat.mul_le_mul_right s (show j + 1 ≤ n from h)
  rwa [Nat.add_mul, Nat.one_mul] at this
theorem bxs_cut {α : Type} {F : α → kE} {s : Nat} (hF : ∀ g, (F g).cells.length = s) {L : List α} {j : Nat} (d : α) (hj : j < L.length) : ((xY F L).drop (j * s)).take s = (F (L.getD j d)).cells.map SV.d := by
  apply List.ext_getElem?
  intro r
  unfold xY
  rw [List.getElem?_take]
  split
  · rename_i hr
    rw [List.getElem?_drop, List.getElem?_map, bxs_cell hF d hj hr, List.getElem?_map]
  · rename_i hr
    rw [List.getElem?_eq_none (by rw [List.length_map, hF]; omega)]
theorem oLA {α : Type} {F : α → kE} {L : List α} {s : Nat} (hs : kV P T = some (true, s)) (j : Nat) (d : α) (ho : o.op = .load T x := by exact rfl) (hx : ev (kA S) x = .ref k (j * s) := by exact rfl) (hb : kI B k = some (xY F L) := by exact rfl) (hF : ∀ g, (F g).cells.length = s := by intro g; kernel_rfl) (hG : ∀ g, xV true ((F g).cells.map SV.d) = .d (F g) := by intro g; kernel_rfl) (h1 : j < L.length := by omega) : ROk P o S B k (.d (F (L.getD j d))) := by
  have h := e_load_ref (P := P) (cs := xY F L) ho hx hs (fun h => by cases h) (by unfold xY; rw [List.length_map, bxs_flen hF]; exact bxs_room h1)
  rw [bxs_cut hF d h1, hG] at h
  exact ⟨_, h, hb⟩
theorem bxs_set {α : Type} {F : α → kE} {s : Nat} (hF : ∀ g, (F g).cells.length = s) {L : List α} {j : Nat} (v : α) (hj : j < L.length) : patch (xY F L) (j * s) ((F v).cells.map SV.d) = xY F (L.set j v) := by
  have hl := bxs_flen hF L
  have hl2 := bxs_flen hF (L.set j v)
  rw [List.length_set] at hl2
  have hrm := bxs_room (s := s) hj
  apply List.ext_getElem?
  intro i
  have hb1 : (xY F L).length = L.length * s := by unfold xY; rw [List.length_map, hl]
  have hb2 : (xY F (L.set j v)).length = L.length * s := by unfold xY; rw [List.length_map, hl2]
  rw [gJ (by rw [List.length_map, hF, hb1]; exact hrm)]
  by_cases hi : i < L.length * s
  · have hs0 : 0 < s := by
      rcases Nat.eq_zero_or_pos s with h | h
      · subst h; simp at hi
      · exact h
    have hq : i / s < L.length := Nat.div_lt_of_lt_mul (by rw [Nat.mul_comm]; exact hi)
    have hr : i % s < s := Nat.mod_lt _ hs0
    have he : i = (i / s) * s + i % s := by rw [Nat.mul_comm]; exact (Nat.div_add_mod i s).symm
    have e1 : (xY F (L.set j v))[i]? = ((F ((L.set j v).getD (i / s) v)).cells[i % s]?).map SV.d := by
      unfold xY; rw [List.getElem?_map]; conv => lhs; rw [he]
      rw [bxs_cell hF v (by rw [List.length_set]; exact hq) hr]
    have e2 : (xY F L)[i]? = ((F (L.getD (i / s) v)).cells[i % s]?).map SV.d := by
      unfold xY; rw [List.getElem?_map]; conv => lhs; rw [he]
      rw [bxs_cell hF v hq hr]
    rw [e1, e2, List.length_map, hF]
    by_cases hc : i / s = j
    · have h3 : j * s ≤ i ∧ i < j * s + s := by subst hc; omega
      rw [if_neg (by omega), if_pos h3.2]
      have h4 : (L.set j v).getD (i / s) v = v := by rw [hc, List.getD_eq_getElem?_getD, List.getElem?_set_self hj]; rfl
      rw [h4, List.getElem?_map, show i - j * s = i % s by subst hc; omega]
    · have h3 : ¬ (j * s ≤ i ∧ i < j * s + s) := fun h => hc (by
        have a1 : j ≤ i / s := (Nat.le_div_iff_mul_le hs0).2 h.1
        have a2 : i / s < j + 1 := Nat.div_lt_of_lt_mul (by rw [Nat.mul_comm, Nat.add_mul, Nat.one_mul]; exact h.2)
        omega)
      have h4 : (L.set j v).getD (i / s) v = L.getD (i / s) v := by rw [List.getD_eq_getElem?_getD, List.getElem?_set_ne (fun e => hc e.symm), ← List.getD_eq_getElem?_getD]
      rw [h4]
      split
      · rfl
      · rw [if_neg (fun h => h3 ⟨by omega, h⟩)]
  · have n1 : (xY F (L.set j v))[i]? = none := List.getElem?_eq_none (by rw [hb2]; omega)
    have n2 : (xY F L)[i]? = none := List.getElem?_eq_none (by rw [hb1]; omega)
    rw [n1, n2, List.length_map, hF, if_neg (by omega), if_neg (by omega)]
theorem oSA {α : Type} {F : α → kE} {L : List α} {s : Nat} (hs : kV P T = some (true, s)) (j : Nat) (v : α) (ho : o.op = .store T x y := by exact rfl) (hx : ev (kA S) x = .ref k (j * s) := by exact rfl) (hb : kI B k = some (xY F L) := by exact rfl) (hy : ev (kA S) y = .d (F v) := by kernel_rfl) (h2 : (F v).ok1 = true := by kernel_rfl) (hF : ∀ g, (F g).cells.length = s := by intro g; kernel_rfl) (h1 : j < L.length := by omega) : TK P o S B k (xY F (L.set j v)) := by
  have h := t_store (P := P) (old := xY F L) ho hx hy hs (.inl ⟨F v, rfl, h2, rfl⟩) (by rw [List.length_map, hF]) (by unfold xY; rw [List.length_map, bxs_flen hF]; exact bxs_room h1)
  rw [bxs_set hF v h1] at h
  exact ⟨_, h, hb⟩
theorem flat_repl {α : Type} (F : α → kE) (z : α) {zd : List kE} (h : zd = (F z).cells) : ∀ M, (List.replicate M zd).flatten.map SV.d = xY F (List.replicate M z)
  | 0 => rfl
  | M + 1 => by
    have ih := flat_repl F z h M
    unfold xY at ih ⊢
    rw [List.replicate_succ, List.flatten_cons, List.map_append, ih, List.replicate_succ, List.map_cons, mD, List.map_append, h]
theorem oMkS {S : Nat → SV} {α : Type} {E : TypeId} {s bytes : Nat} {kl kc : IntKind} {m n : Int} {zv : List Value} {zd : List kE} (b : Nat) (F : α → kE) (z : α) (N M : Nat) (hT : uR P T = some (E, s)) (hz : vF P E = some zv) (hzd : mV zv zd) (hby : yD P E = some bytes) (ho : o.op = .makeSlice T x y := by exact rfl)
    (hl : ev S x = .d (.val (.int kl m)) := by exact rfl) (hc : ev S y = .d (.val (.int kc n)) := by exact rfl) (hlN : m = ((N : Nat) : Int) := by omega) (hcM : n = ((M : Nat) : Int) := by omega) (hzl : Nat.beq zd.length s = true := by kernel_rfl) (hnm : N ≤ M := by omega) (hb : bytes * M ≤ 281474976710656 := by omega) (hm : M ≤ maxLen := by unfold maxLen; omega) (hzF : zd = (F z).cells := by kernel_rfl) :
    NOk P o S b (xY F (List.replicate M z)) (.own b E s N) := by
  subst hlN; subst hcM
  exact n_mks b ho hT hz hzd (Nat.eq_of_beq_eq_true hzl) hby hl hc hnm hb hm (flat_repl F z hzF M)
theorem oNs {S : Nat → SV} {T T' : TypeId} {c : Nat} (hT : eqsB P T = some c) (k : IntKind) (ms ns : List Int) (ho : o.op = .binOp .neq T x y T' := by exact rfl) (hx : ev S x = .d (.agg (ms.map fun m => .val (.int k m))) := by exact rfl) (hy : ev S y = .d (.agg (ns.map fun m => .val (.int k m))) := by exact rfl) (h1 : ms.length = c := by exact rfl) (h2 : ns.length = c := by exact rfl) : qR P o S [] (.d (.val (.bool (!(decide (ms = ns)))))) :=
  qR.same fun a w D β hop _ => by
    have hx' := hop x (by simp [ho, Op.operands])
    have hy' := hop y (by simp [ho, Op.operands])
    rw [hx] at hx'
    rw [hy] at hy'
    have ex := fH hx'
    have ey := fH hy'
    obtain ⟨g1, g2⟩ := run_eqS hT k ms ns h1 h2 w
    refine ⟨.bool (!(decide (ms = ns))), ?_, .val _⟩
    simp [execOp, ho, ex, ey, eqGuard, g2, binOp, g1]
end
end Go.Fid
namespace Go.Proofs.YtihgdjljnaekmaaGreat
open Go.Fid
set_option maxRecDepth 4000
set_option linter.unusedVariables false
set_option linter.unusedSimpArgs false
theorem cb26 : callB Tryz.prog 26 = true := by kernel_rfl
theorem l8_tree (n : Nat) (es : List jC) (heo : vS n es) (hn : n ≤ 64) (hl2 : es.length ≤ 256) : jZ Tryz.prog 26 [(.val (.int .i64 (((n : Nat) : Int)))), (.sl 56 6 (List.map jK es))] (.tup [(.sl 3 1 (List.map jP (jO n es))), (.sl 3 1 (List.map jP (nV n es)))]) := by
 refine jL Tryz.func26 rfl cb26 rfl ?_
 show qS _ _ _ _ ⟨[(0, (jQ n)), (1, (vl 56 6 jK es))], []⟩
 refine jA <| kx [(4, (.own 0 3 1 0)), (5, (.own 1 3 1 0))] [(0, some (bm jP [])), (1, some (bm jP []))] (zO 0 3 1 <| zO 1 3 1 <| zZ) ?_
 refine jA <| jA <| kx [(12, (jQ n)), (13, (jQ 0))] [] (zM <| zM <| zZ) ?_
 refine jH <| kH (α := Nat × List Int) (fun (i, pt) => ⟨[(1, (vl 56 6 jK es)), (4, (.own 0 3 1 0)), (5, (.own 1 3 1 pt.length)), (12, (jQ n)), (13, (jQ i))], [(0, some (bm jP [])), (1, some (bm jP pt))]⟩) (fun (i, pt) => i ≤ n ∧ pt = ini i) (fun (i, pt) => n - i) (0, []) wk ⟨Nat.zero_le _, rfl⟩ ?_
 rintro ⟨i, pt⟩ ⟨hi, hp⟩
 have hpl : pt.length ≤ 64 := by rw [hp, ini_len]; omega
 refine jA <| kx [(14, (vb (decide (((i : Nat) : Int) < ((n : Nat) : Int)))))] [] (zE uP <| zZ) ?_
 refine jA <| jG rfl (fun h1 => ?_) (fun h1 => ?_)
 ·replace h1 := of_decide_eq_true h1
  refine jF <| jA <| jH <| jA <| kx [(6, (jQ i))] [] (zM <| zM <| zZ) ?_
  refine kf [(5, (.own 1 3 1 ((pt ++ [((i : Nat) : Int)]).length)))] [(1, some (bm jP (pt ++ [((i : Nat) : Int)])))] (zM <| zM <| zE (aA uT ze3 zo3) <| zA jP pt [((i : Nat) : Int)] rfl uT ze3 by3 <| zM <| zF) ?_
  refine kx [(13, (jQ (i + 1)))] [] (zE (qQ (i + 1)) <| zM <| zZ) ?_
  exact ⟨(i + 1, pt ++ [((i : Nat) : Int)]), wk, ⟨by omega, by rw [hp, ini_s]⟩, (by first | omega | (dsimp only; omega))⟩
 ·replace h1 := of_decide_eq_false h1
  have hpn : pt.length = n := by rw [hp, ini_len]; omega
  rw [hpn]
  refine jW <| jA <| jA <| kx [(21, (vl 56 6 jK es)), (22, (jQ es.length)), (23, (jQ 0))] [] (zM <| zE (xA gQ) <| zM <| zZ) ?_
  refine jH <| kH (α := Nat × List Int × List Int) (fun (k, tk, pt) => ⟨[(4, (.own 0 3 1 tk.length)), (5, (.own 1 3 1 n)), (21, (vl 56 6 jK es)), (22, (jQ es.length)), (23, (jQ k))], [(0, some (bm jP tk)), (1, some (bm jP pt))]⟩) (fun (k, tk, pt) => k ≤ es.length ∧ tk = zJ true n es k ∧ pt = kN true n es k) (fun (k, tk, pt) => es.length - k) (0, [], pt) wk ⟨Nat.zero_le _, rfl, by rw [hp, show i = n by omega]; rfl⟩ ?_
  rintro ⟨k, tk, pt⟩ ⟨hk, htk, hpt⟩
  have hpl : pt.length = n := by rw [hpt, yE]
  have htl : tk.length ≤ k := by rw [htk]; exact tTak_len _ _ _ _
  refine jA <| kx [(24, (vb (decide (((k : Nat) : Int) < ((es.length : Nat) : Int)))))] [] (zE uP <| zZ) ?_
  refine jA <| jG rfl (fun h2 => ?_) (fun h2 => ?_)
  ·replace h2 := of_decide_eq_true h2
   have hek : EOkE n (es.getD k (jC.mk 0 0 (jB.mk 0 0 0 0))) := mY heo (k := k) (by omega)
   obtain ⟨hek1, hek2, hek3, hek4, hek5, _⟩ := id hek
   refine jF <| jA <| jH <| jA <| kx [(7, (jQ k)), (8, (.ref 2 0))] [(2, some (bx (jK (es.getD k (jC.mk 0 0 (jB.mk 0 0 0 0))))))] (zM <| zE (yO gQ k (jC.mk 0 0 (jB.mk 0 0 0 0))) <| zE (eN hP) <| zH (uQ 2 fK zo56) <| zM <| zT (kZ hP) <| zZ) ?_
   refine jA <| kd [(9, (vi (pt.getD (((es.getD k (jC.mk 0 0 (jB.mk 0 0 0 0))).fr).toNat) 0))), (10, (vi (pt.getD (((es.getD k (jC.mk 0 0 (jB.mk 0 0 0 0))).to_).toNat) 0)))] [] mo (wM <| wE (kQ vY) <| wR (kM qA) <| wE (dT uT (((es.getD k (jC.mk 0 0 (jB.mk 0 0 0 0))).fr).toNat)) <| wR (oLp qA (((es.getD k (jC.mk 0 0 (jB.mk 0 0 0 0))).fr).toNat) (0 : Int)) <| wM <| wE (kQ xD) <| wR (kM qA) <| wE (dT uT (((es.getD k (jC.mk 0 0 (jB.mk 0 0 0 0))).to_).toNat)) <| wR (oLp qA (((es.getD k (jC.mk 0 0 (jB.mk 0 0 0 0))).to_).toNat) (0 : Int)) <| wM <| wM <| wZ) ?_
   refine jA <| jA <| kx [(40, (vb ((pt.getD (((es.getD k (jC.mk 0 0 (jB.mk 0 0 0 0))).fr).toNat) 0) == (pt.getD (((es.getD k (jC.mk 0 0 (jB.mk 0 0 0 0))).to_).toNat) 0))))] [] (zM <| zM <| zE gF <| zZ) ?_
   refine jG rfl (fun h3 => ?_) (fun h3 => ?_)
   ·replace h3 := eq_of_beq h3
    refine jW <| kx [(23, (jQ (k + 1)))] [] (zE (qQ (k + 1)) <| zM <| zZ) ?_
    exact ⟨(k + 1, tk, pt), wk, ⟨by omega, by rw [(hM (by rw [← hpt]; exact h3)).2]; exact htk, by rw [(hM (by rw [← hpt]; exact h3)).1]; exact hpt⟩, (by first | omega | (dsimp only; omega))⟩
   ·replace h3 := ne_of_beq_false h3
    refine jF <| jA <| kf [(4, (.own 0 3 1 ((tk ++ [((k : Nat) : Int)]).length)))] [(0, some (bm jP (tk ++ [((k : Nat) : Int)])))] (zM <| zM <| zE (aA uT ze3 zo3) <| zA jP tk [((k : Nat) : Int)] rfl uT ze3 by3 <| zM <| zF) ?_
    refine jA <| kx [(46, (jQ n)), (47, (jQ 0))] [] (zM <| zE (oLo uT) <| zM <| zZ) ?_
    refine jH <| kH (α := Nat × List Int) (fun (m, q) => ⟨[(4, (.own 0 3 1 ((tk ++ [((k : Nat) : Int)]).length))), (5, (.own 1 3 1 n)), (9, (vi (pt.getD (((es.getD k (jC.mk 0 0 (jB.mk 0 0 0 0))).fr).toNat) 0))), (10, (vi (pt.getD (((es.getD k (jC.mk 0 0 (jB.mk 0 0 0 0))).to_).toNat) 0))), (21, (vl 56 6 jK es)), (22, (jQ es.length)), (23, (jQ k)), (46, (jQ n)), (47, (jQ m))], [(0, some (bm jP (tk ++ [((k : Nat) : Int)]))), (1, some (bm jP q))]⟩) (fun (m, q) => m ≤ n ∧ RlUp (min (pt.getD (es.getD k (jC.mk 0 0 (jB.mk 0 0 0 0))).fr.toNat 0) (pt.getD (es.getD k (jC.mk 0 0 (jB.mk 0 0 0 0))).to_.toNat 0)) (max (pt.getD (es.getD k (jC.mk 0 0 (jB.mk 0 0 0 0))).fr.toNat 0) (pt.getD (es.getD k (jC.mk 0 0 (jB.mk 0 0 0 0))).to_.toNat 0)) pt (List.range m) q) (fun (m, q) => n - m) (0, pt) wk ⟨Nat.zero_le _, RlUp_0 _ _ _⟩ ?_
    rintro ⟨m, q⟩ ⟨hm, hq⟩
    have hql := hq.1
    refine jA <| kx [(48, (vb (decide (((m : Nat) : Int) < ((n : Nat) : Int)))))] [] (zE uP <| zZ) ?_
    refine jA <| jG rfl (fun h4 => ?_) (fun h4 => ?_)
    ·replace h4 := of_decide_eq_true h4
     refine jF <| jA <| jH <| jA <| kx [(11, (jQ m))] [] (zM <| zM <| zZ) ?_
     refine jA <| kx [(57, (vb ((q.getD m 0) == (max (pt.getD (((es.getD k (jC.mk 0 0 (jB.mk 0 0 0 0))).fr).toNat) 0) (pt.getD (((es.getD k (jC.mk 0 0 (jB.mk 0 0 0 0))).to_).toNat) 0)))))] [] (zM <| zM <| zE (dT uT m) <| zR (oLp qA m (0 : Int)) <| zM <| zM <| zE (zMx (max (pt.getD (((es.getD k (jC.mk 0 0 (jB.mk 0 0 0 0))).fr).toNat) 0) (pt.getD (((es.getD k (jC.mk 0 0 (jB.mk 0 0 0 0))).to_).toNat) 0)) (hr := by first | omega | (dsimp only; omega))) <| zE gF <| zZ) ?_
     refine jG rfl (fun h5 => ?_) (fun h5 => ?_)
     ·replace h5 := eq_of_beq h5
      refine kx [] [(1, some (bm jP (q.set m (min (pt.getD (((es.getD k (jC.mk 0 0 (jB.mk 0 0 0 0))).fr).toNat) 0) (pt.getD (((es.getD k (jC.mk 0 0 (jB.mk 0 0 0 0))).to_).toNat) 0)))))] (zM <| zM <| zM <| zM <| zE (zMn (min (pt.getD (((es.getD k (jC.mk 0 0 (jB.mk 0 0 0 0))).fr).toNat) 0) (pt.getD (((es.getD k (jC.mk 0 0 (jB.mk 0 0 0 0))).to_).toNat) 0)) (hr := by first | omega | (dsimp only; omega))) <| zE (dT uT m) <| zT (oSp qA m (min (pt.getD (((es.getD k (jC.mk 0 0 (jB.mk 0 0 0 0))).fr).toNat) 0) (pt.getD (((es.getD k (jC.mk 0 0 (jB.mk 0 0 0 0))).to_).toNat) 0))) <| zZ) ?_
      refine kx [(47, (jQ (m + 1)))] [] (zE (qQ (m + 1)) <| zM <| zZ) ?_
      exact ⟨(m + 1, q.set m (min (pt.getD (es.getD k (jC.mk 0 0 (jB.mk 0 0 0 0))).fr.toNat 0) (pt.getD (es.getD k (jC.mk 0 0 (jB.mk 0 0 0 0))).to_.toNat 0))), wk, ⟨by omega, by rw [List.range_succ]; exact RlUp_y hq (by omega) (by simp) h5⟩, (by first | omega | (dsimp only; omega))⟩
     ·replace h5 := ne_of_beq_false h5
      refine jF <| kx [(47, (jQ (m + 1)))] [] (zE (qQ (m + 1)) <| zM <| zZ) ?_
      exact ⟨(m + 1, q), wk, ⟨by omega, by rw [List.range_succ]; exact RlUp_n hq (by omega) (by simp) h5⟩, (by first | omega | (dsimp only; omega))⟩
    ·replace h4 := of_decide_eq_false h4
     refine jW <| kx [(23, (jQ (k + 1)))] [] (zE (qQ (k + 1)) <| zM <| zZ) ?_
     exact ⟨(k + 1, tk ++ [((k : Nat) : Int)], q), wk, ⟨by omega, by rw [(hO (by rw [← hpt]; exact h3)).2, htk], by rw [(hO (by rw [← hpt]; exact h3)).1, ← hpt]; exact (RlUp_end hq (fun j hj => List.mem_range.2 (by have := hq.1; omega))).trans (by simp only [mrg, kp, dp, if_true, Bool.false_eq_true, if_false]; rfl)⟩, (by first | omega | (dsimp only; omega))⟩
  ·replace h2 := of_decide_eq_false h2
   refine jW <| jA <| kY (vV (t := 4) (k := 0) (es := List.map jP tk) rfl rfl (uO _ _ (fun _ => rfl)) (uS _ _ rfl) (vE _ _ (fun _ => rfl) rfl)) ?_
   refine kY (vV (t := 5) (k := 1) (es := List.map jP pt) rfl rfl (uO _ _ (fun _ => rfl)) (uS _ _ hpl) (vE _ _ (fun _ => rfl) hpl)) ?_
   refine kx [(4, (vl 3 1 jP tk)), (5, (vl 3 1 jP pt))] [] (zM <| zM <| zM <| zM <| zZ) ?_
   refine jI ⟨_, (.tmp (d := (.sl 3 1 (List.map jP tk))) rfl (.tmp (d := (.sl 3 1 (List.map jP pt))) rfl .nil)), ?_⟩
   rw [htk, hpt, show k = es.length by omega]; rfl
end Go.Proofs.YtihgdjljnaekmaaGreat
namespace Go.Proofs.YtihgdjljnaekmaaGreat
open Go.Fid
set_option maxRecDepth 4000
set_option linter.unusedVariables false
set_option linter.unusedSimpArgs false
theorem by28 : yD Tryz.prog 28 = some 32 := by kernel_rfl
end Go.Proofs.YtihgdjljnaekmaaGreat
