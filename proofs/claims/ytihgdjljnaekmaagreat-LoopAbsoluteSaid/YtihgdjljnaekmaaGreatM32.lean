/- Part 32 of a proof: rules, plain facts, and functions walked. -/
import Derived.Test.YtihgdjljnaekmaaGreatM25
import Derived.Test.YtihgdjljnaekmaaGreatM31
import Derived.Test.YtihgdjljnaekmaaGreatM30
set_option linter.unusedVariables false
set_option linter.unusedSimpArgs false
namespace Go.Fid
section
variable {P : Program} {S : SL} {B : BS} {o : Oper} {x y : Operand} {k : Nat} {T : TypeId}
theorem bxs_flen {α : Type} {F : α → Dat} {s : Nat} (hF : ∀ g, (F g).cells.length = s) (L : List α) : (flat (L.map F)).length = L.length * s := by
  rw [flat_length (s := s) (fun e he => by obtain ⟨g, _, rfl⟩ := List.mem_map.1 he; exact hF g), List.length_map]
theorem bxs_cell {α : Type} {F : α → Dat} {s : Nat} (hF : ∀ g, (F g).cells.length = s) {L : List α} {j r : Nat} (d : α) (hj : j < L.length) (hr : r < s) : (flat (L.map F))[j * s + r]? = (F (L.getD j d)).cells[r]? :=
  flat_get (s := s) (e := F (L.getD j d)) (fun e he => by obtain ⟨g, _, rfl⟩ := List.mem_map.1 he; exact hF g) (by simp [List.getD_eq_getElem?_getD, List.getElem?_eq_getElem hj]) hr
theorem bxs_room {j n s : Nat} (h : j < n) : j * s + s ≤ n * s := by
  have := Nat.mul_le_mul_right s (show j + 1 ≤ n from h)
  rwa [Nat.add_mul, Nat.one_mul] at this
theorem bxs_cut {α : Type} {F : α → Dat} {s : Nat} (hF : ∀ g, (F g).cells.length = s) {L : List α} {j : Nat} (d : α) (hj : j < L.length) : ((bxs F L).drop (j * s)).take s = (F (L.getD j d)).cells.map SV.d := by
  apply List.ext_getElem?
  intro r
  unfold bxs
  rw [List.getElem?_take]
  split
  · rename_i hr
    rw [List.getElem?_drop, List.getElem?_map, bxs_cell hF d hj hr, List.getElem?_map]
  · rename_i hr
    rw [List.getElem?_eq_none (by rw [List.length_map, hF]; omega)]
theorem oLA {α : Type} {F : α → Dat} {L : List α} {s : Nat} (hs : shapeB P T = some (true, s)) (j : Nat) (d : α) (ho : o.op = .load T x := by exact rfl) (hx : ev (sget S) x = .ref k (j * s) := by exact rfl) (hb : bget B k = some (bxs F L) := by exact rfl) (hF : ∀ g, (F g).cells.length = s := by intro g; kernel_rfl) (hG : ∀ g, gather true ((F g).cells.map SV.d) = .d (F g) := by intro g; kernel_rfl) (h1 : j < L.length := by omega) : ROk P o S B k (.d (F (L.getD j d))) := by
  have h := e_load_ref (P := P) (cs := bxs F L) ho hx hs (fun h => by cases h) (by unfold bxs; rw [List.length_map, bxs_flen hF]; exact bxs_room h1)
  rw [bxs_cut hF d h1, hG] at h
  exact ⟨_, h, hb⟩
theorem bxs_set {α : Type} {F : α → Dat} {s : Nat} (hF : ∀ g, (F g).cells.length = s) {L : List α} {j : Nat} (v : α) (hj : j < L.length) : patch (bxs F L) (j * s) ((F v).cells.map SV.d) = bxs F (L.set j v) := by
  have hl := bxs_flen hF L
  have hl2 := bxs_flen hF (L.set j v)
  rw [List.length_set] at hl2
  have hrm := bxs_room (s := s) hj
  apply List.ext_getElem?
  intro i
  have hb1 : (bxs F L).length = L.length * s := by unfold bxs; rw [List.length_map, hl]
  have hb2 : (bxs F (L.set j v)).length = L.length * s := by unfold bxs; rw [List.length_map, hl2]
  rw [patch_get (by rw [List.length_map, hF, hb1]; exact hrm)]
  by_cases hi : i < L.length * s
  · have hs0 : 0 < s := by
      rcases Nat.eq_zero_or_pos s with h | h
      · subst h; simp at hi
      · exact h
    have hq : i / s < L.length := Nat.div_lt_of_lt_mul (by rw [Nat.mul_comm]; exact hi)
    have hr : i % s < s := Nat.mod_lt _ hs0
    have he : i = (i / s) * s + i % s := by rw [Nat.mul_comm]; exact (Nat.div_add_mod i s).symm
    have e1 : (bxs F (L.set j v))[i]? = ((F ((L.set j v).getD (i / s) v)).cells[i % s]?).map SV.d := by
      unfold bxs; rw [List.getElem?_map]; conv => lhs; rw [he]
      rw [bxs_cell hF v (by rw [List.length_set]; exact hq) hr]
    have e2 : (bxs F L)[i]? = ((F (L.getD (i / s) v)).cells[i % s]?).map SV.d := by
      unfold bxs; rw [List.getElem?_map]; conv => lhs; rw [he]
      rw [bxs_cell hF v hq hr]
    rw [e1, e2, List.length_map, hF]
    by_cases hc : i / s = j
    · have h3 : j * s ≤ i ∧ i < j * s + s := by subst hc; omega
      rw [if_neg (by omega), if_pos h3.2]
      have h4 : (L.set j v).getD (i / s) v = v := by rw [hc, List.getD_eq_getElem?_getD, List.getElem?_set_self hj]; rfl
      rw [h4, List.getElem?_map, show i - j * s = i % s by subst hc; omega]
    · have h3 : ¬ (j * s ≤ i ∧ i < j * s + s) := fun h => hc (by
        have a1 : j ≤ i / s := (Nat.le_div_iff_mul_le hs0).2 h.1
        have a2 : i / s < j + 1 := Nat.div_lt_of_lt_mul (by rw [Nat.mul_comm, Nat.add_mul, Nat.one_mul]; exact h.2)
        omega)
      have h4 : (L.set j v).getD (i / s) v = L.getD (i / s) v := by rw [List.getD_eq_getElem?_getD, List.getElem?_set_ne (fun e => hc e.symm), ← List.getD_eq_getElem?_getD]
      rw [h4]
      split
      · rfl
      · rw [if_neg (fun h => h3 ⟨by omega, h⟩)]
  · have n1 : (bxs F (L.set j v))[i]? = none := List.getElem?_eq_none (by rw [hb2]; omega)
    have n2 : (bxs F L)[i]? = none := List.getElem?_eq_none (by rw [hb1]; omega)
    rw [n1, n2, List.length_map, hF, if_neg (by omega), if_neg (by omega)]
theorem oSA {α : Type} {F : α → Dat} {L : List α} {s : Nat} (hs : shapeB P T = some (true, s)) (j : Nat) (v : α) (ho : o.op = .store T x y := by exact rfl) (hx : ev (sget S) x = .ref k (j * s) := by exact rfl) (hb : bget B k = some (bxs F L) := by exact rfl) (hy : ev (sget S) y = .d (F v) := by kernel_rfl) (h2 : (F v).ok1 = true := by kernel_rfl) (hF : ∀ g, (F g).cells.length = s := by intro g; kernel_rfl) (h1 : j < L.length := by omega) : TK P o S B k (bxs F (L.set j v)) := by
  have h := t_store (P := P) (old := bxs F L) ho hx hy hs (.inl ⟨F v, rfl, h2, rfl⟩) (by rw [List.length_map, hF]) (by unfold bxs; rw [List.length_map, bxs_flen hF]; exact bxs_room h1)
  rw [bxs_set hF v h1] at h
  exact ⟨_, h, hb⟩
theorem flat_repl {α : Type} (F : α → Dat) (z : α) {zd : List Dat} (h : zd = (F z).cells) : ∀ M, (List.replicate M zd).flatten.map SV.d = bxs F (List.replicate M z)
  | 0 => rfl
  | M + 1 => by
    have ih := flat_repl F z h M
    unfold bxs at ih ⊢
    rw [List.replicate_succ, List.flatten_cons, List.map_append, ih, List.replicate_succ, List.map_cons, flat_cons, List.map_append, h]
theorem oMkS {S : Nat → SV} {α : Type} {E : TypeId} {s bytes : Nat} {kl kc : IntKind} {m n : Int} {zv : List Value} {zd : List Dat} (b : Nat) (F : α → Dat) (z : α) (N M : Nat) (hT : elemB P T = some (E, s)) (hz : zeroB P E = some zv) (hzd : ZOk zv zd) (hby : bytesB P E = some bytes) (ho : o.op = .makeSlice T x y := by exact rfl)
    (hl : ev S x = .d (.val (.int kl m)) := by exact rfl) (hc : ev S y = .d (.val (.int kc n)) := by exact rfl) (hlN : m = ((N : Nat) : Int) := by omega) (hcM : n = ((M : Nat) : Int) := by omega) (hzl : Nat.beq zd.length s = true := by kernel_rfl) (hnm : N ≤ M := by omega) (hb : bytes * M ≤ 281474976710656 := by omega) (hm : M ≤ maxLen := by unfold maxLen; omega) (hzF : zd = (F z).cells := by kernel_rfl) :
    NOk P o S b (bxs F (List.replicate M z)) (.own b E s N) := by
  subst hlN; subst hcM
  exact n_mks b ho hT hz hzd (Nat.eq_of_beq_eq_true hzl) hby hl hc hnm hb hm (flat_repl F z hzF M)
theorem oNs {S : Nat → SV} {T T' : TypeId} {c : Nat} (hT : eqsB P T = some c) (k : IntKind) (ms ns : List Int) (ho : o.op = .binOp .neq T x y T' := by exact rfl) (hx : ev S x = .d (.agg (ms.map fun m => .val (.int k m))) := by exact rfl) (hy : ev S y = .d (.agg (ns.map fun m => .val (.int k m))) := by exact rfl) (h1 : ms.length = c := by exact rfl) (h2 : ns.length = c := by exact rfl) : EOk P o S [] (.d (.val (.bool (!(decide (ms = ns)))))) :=
  EOk.same fun a w D β hop _ => by
    have hx' := hop x (by simp [ho, Op.operands])
    have hy' := hop y (by simp [ho, Op.operands])
    rw [hx] at hx'
    rw [hy] at hy'
    have ex := rep_ints hx'
    have ey := rep_ints hy'
    obtain ⟨g1, g2⟩ := run_eqS hT k ms ns h1 h2 w
    refine ⟨.bool (!(decide (ms = ns))), ?_, .val _⟩
    simp [execOp, ho, ex, ey, eqGuard, g2, binOp, g1]
end
end Go.Fid
namespace Go.Proofs.YtihgdjljnaekmaaGreat
open Go.Fid
set_option maxRecDepth 4000
set_option linter.unusedVariables false
set_option linter.unusedSimpArgs false
theorem cb26 : callB Tryz.prog 26 = true := by kernel_rfl
theorem cb91 : callB Tryz.prog 91 = true := by kernel_rfl
theorem l8_over (p : RQuat) (q : RQuat) (hp : Qok p) (hq : Qok q) : Takes Tryz.prog 91 [(encQuat p), (encQuat q)] (.tup [(encQuat (qV (qmul p (qV (qcj q))))), (.val (.int .i64 ((((qC (qmul p (qV (qcj q)))) : Nat) : Int))))]) := by
  refine fn_intro Tryz.func91 rfl cb91 rfl ?_
  show PWp _ _ _ _ ⟨[(0, (.d (encQuat p))), (1, (.d (encQuat q)))], []⟩
  refine pwp_seq <| kx [(2, (.ref 0 0)), (3, (.ref 1 0)), (4, (.ref 2 0))] [(0, some (bx (encQuat p))), (1, some (bx (encQuat q))), (2, some (bx (encQuat (RQuat.mk 0 0 0 0))))] (zN (oBx 0) <| zN (oBx 1) <| zN (oAl 2 ze28 zo28) <| zM <| zZ) ?_
  refine pwp_seq <| kx [(6, (.ref 3 0)), (7, (vin (qC (qcj q))))] [(3, some (bx (encQuat (qV (qcj q)))))] (zR (oLa sh28) <| zE (oCl (l8_conj q hq)) <| zM <| zE oEx <| zE oEx <| zN (oAl 3 ze28 zo28) <| zT (oSt sh28) <| zM <| zZ) ?_
  refine pwp_seq <| pwp_seq <| kx [(14, (vb false))] [] (zM <| zE (oBk false oNe (by exact bne_eq_false_iff_eq.2 (by rw [show (qC (qcj q)) = 0 from (qC_cj hq)]; rfl))) <| zZ) ?_
  refine pwp_cond (b := false) (by kernel_rfl) (fun h => by cases h) (fun _ => ?_)
  refine pwp_skip <| pwp_seq <| kx [(5, (vin (qC (qmul p (qV (qcj q))))))] [(2, some (bx (encQuat (qV (qmul p (qV (qcj q)))))))] (zR (oLa sh28) <| zR (oLa sh28) <| zE (oCl (l8_mul p (qV (qcj q)) hp (qV_ok (qcj_nz hq.1) (qC_cj hq)))) <| zE oEx <| zE oEx <| zT (oSt sh28) <| zM <| zZ) ?_
  refine pwp_ret ⟨_, (res_a (cs := (bx (encQuat (qV (qmul p (qV (qcj q))))))) (d := (encQuat (qV (qmul p (qV (qcj q)))))) rfl rfl sh28 rfl rfl (.tmp (d := (.val (.int .i64 ((((qC (qmul p (qV (qcj q)))) : Nat) : Int))))) rfl .nil)), ?_⟩
  rfl
theorem l8_tree (n : Nat) (es : List REdge) (heo : EsOk n es) (hn : n ≤ 64) (hl2 : es.length ≤ 256) : Takes Tryz.prog 26 [(.val (.int .i64 (((n : Nat) : Int)))), (.sl 56 6 (List.map encEdge es))] (.tup [(.sl 3 1 (List.map enc_i64 (treL n es))), (.sl 3 1 (List.map enc_i64 (parL n es)))]) := by
  refine fn_intro Tryz.func26 rfl cb26 rfl ?_
  show PWp _ _ _ _ ⟨[(0, (vin n)), (1, (vl 56 6 encEdge es))], []⟩
  refine pwp_seq <| kx [(4, (.own 0 3 1 0)), (5, (.own 1 3 1 0))] [(0, some (bm enc_i64 [])), (1, some (bm enc_i64 []))] (zO 0 3 1 <| zO 1 3 1 <| zZ) ?_
  refine pwp_seq <| pwp_seq <| kx [(12, (vin n)), (13, (vin 0))] [] (zM <| zM <| zZ) ?_
  refine pwp_block <| pwp_loop (α := Nat × List Int) (fun (i, pt) => ⟨[(1, (vl 56 6 encEdge es)), (4, (.own 0 3 1 0)), (5, (.own 1 3 1 pt.length)), (12, (vin n)), (13, (vin i))], [(0, some (bm enc_i64 [])), (1, some (bm enc_i64 pt))]⟩) (fun (i, pt) => i ≤ n ∧ pt = ini i) (fun (i, pt) => n - i) (0, []) wk ⟨Nat.zero_le _, rfl⟩ ?_
  rintro ⟨i, pt⟩ ⟨hi, hp⟩
  have hpl : pt.length ≤ 64 := by rw [hp, ini_len]; omega
  refine pwp_seq <| kx [(14, (vb (decide (((i : Nat) : Int) < ((n : Nat) : Int)))))] [] (zE oLt <| zZ) ?_
  refine pwp_seq <| pwp_cond rfl (fun h1 => ?_) (fun h1 => ?_)
  · replace h1 := of_decide_eq_true h1
    refine pwp_skip <| pwp_seq <| pwp_block <| pwp_seq <| kx [(6, (vin i))] [] (zM <| zM <| zZ) ?_
    refine kf [(5, (.own 1 3 1 ((pt ++ [((i : Nat) : Int)]).length)))] [(1, some (bm enc_i64 (pt ++ [((i : Nat) : Int)])))] (zM <| zM <| zE (oBs el60 ze3 zo3) <| zA enc_i64 pt [((i : Nat) : Int)] rfl el60 ze3 by3 <| zM <| zF) ?_
    refine kx [(13, (vin (i + 1)))] [] (zE (oAd (i + 1)) <| zM <| zZ) ?_
    exact ⟨(i + 1, pt ++ [((i : Nat) : Int)]), wk, ⟨by omega, by rw [hp, ini_s]⟩, (by first | omega | (dsimp only; omega))⟩
  · replace h1 := of_decide_eq_false h1
    have hpn : pt.length = n := by rw [hp, ini_len]; omega
    rw [hpn]
    refine pwp_exit <| pwp_seq <| pwp_seq <| kx [(21, (vl 56 6 encEdge es)), (22, (vin es.length)), (23, (vin 0))] [] (zM <| zE (oLm el39) <| zM <| zZ) ?_
    refine pwp_block <| pwp_loop (α := Nat × List Int × List Int) (fun (k, tk, pt) => ⟨[(4, (.own 0 3 1 tk.length)), (5, (.own 1 3 1 n)), (21, (vl 56 6 encEdge es)), (22, (vin es.length)), (23, (vin k))], [(0, some (bm enc_i64 tk)), (1, some (bm enc_i64 pt))]⟩) (fun (k, tk, pt) => k ≤ es.length ∧ tk = tTak true n es k ∧ pt = tPar true n es k) (fun (k, tk, pt) => es.length - k) (0, [], pt) wk ⟨Nat.zero_le _, rfl, by rw [hp, show i = n by omega]; rfl⟩ ?_
    rintro ⟨k, tk, pt⟩ ⟨hk, htk, hpt⟩
    have hpl : pt.length = n := by rw [hpt, tPar_len]
    have htl : tk.length ≤ k := by rw [htk]; exact tTak_len _ _ _ _
    refine pwp_seq <| kx [(24, (vb (decide (((k : Nat) : Int) < ((es.length : Nat) : Int)))))] [] (zE oLt <| zZ) ?_
    refine pwp_seq <| pwp_cond rfl (fun h2 => ?_) (fun h2 => ?_)
    · replace h2 := of_decide_eq_true h2
      have hek : EOkE n (es.getD k (REdge.mk 0 0 (RQuat.mk 0 0 0 0))) := eget heo (k := k) (by omega)
      obtain ⟨hek1, hek2, hek3, hek4, hek5, _⟩ := id hek
      refine pwp_skip <| pwp_seq <| pwp_block <| pwp_seq <| kx [(7, (vin k)), (8, (.ref 2 0))] [(2, some (bx (encEdge (es.getD k (REdge.mk 0 0 (RQuat.mk 0 0 0 0))))))] (zM <| zE (oXl el39 k (REdge.mk 0 0 (RQuat.mk 0 0 0 0))) <| zE (oCa sh56) <| zH (oAl 2 ze56 zo56) <| zM <| zT (oSt sh56) <| zZ) ?_
      refine pwp_seq <| kd [(9, (vi (pt.getD (((es.getD k (REdge.mk 0 0 (RQuat.mk 0 0 0 0))).fr).toNat) 0))), (10, (vi (pt.getD (((es.getD k (REdge.mk 0 0 (RQuat.mk 0 0 0 0))).to_).toNat) 0)))] [] mo (wM <| wE (oFr fo56_0) <| wR (oL1 sh3) <| wE (oXo el60 (((es.getD k (REdge.mk 0 0 (RQuat.mk 0 0 0 0))).fr).toNat)) <| wR (oLp sh3 (((es.getD k (REdge.mk 0 0 (RQuat.mk 0 0 0 0))).fr).toNat) (0 : Int)) <| wM <| wE (oFr fo56_1) <| wR (oL1 sh3) <| wE (oXo el60 (((es.getD k (REdge.mk 0 0 (RQuat.mk 0 0 0 0))).to_).toNat)) <| wR (oLp sh3 (((es.getD k (REdge.mk 0 0 (RQuat.mk 0 0 0 0))).to_).toNat) (0 : Int)) <| wM <| wM <| wZ) ?_
      refine pwp_seq <| pwp_seq <| kx [(40, (vb ((pt.getD (((es.getD k (REdge.mk 0 0 (RQuat.mk 0 0 0 0))).fr).toNat) 0) == (pt.getD (((es.getD k (REdge.mk 0 0 (RQuat.mk 0 0 0 0))).to_).toNat) 0))))] [] (zM <| zM <| zE oEq <| zZ) ?_
      refine pwp_cond rfl (fun h3 => ?_) (fun h3 => ?_)
      · replace h3 := eq_of_beq h3
        refine pwp_exit <| kx [(23, (vin (k + 1)))] [] (zE (oAd (k + 1)) <| zM <| zZ) ?_
        exact ⟨(k + 1, tk, pt), wk, ⟨by omega, by rw [(tPar_y (by rw [← hpt]; exact h3)).2]; exact htk, by rw [(tPar_y (by rw [← hpt]; exact h3)).1]; exact hpt⟩, (by first | omega | (dsimp only; omega))⟩
      · replace h3 := ne_of_beq_false h3
        refine pwp_skip <| pwp_seq <| kf [(4, (.own 0 3 1 ((tk ++ [((k : Nat) : Int)]).length)))] [(0, some (bm enc_i64 (tk ++ [((k : Nat) : Int)])))] (zM <| zM <| zE (oBs el60 ze3 zo3) <| zA enc_i64 tk [((k : Nat) : Int)] rfl el60 ze3 by3 <| zM <| zF) ?_
        refine pwp_seq <| kx [(46, (vin n)), (47, (vin 0))] [] (zM <| zE (oLo el60) <| zM <| zZ) ?_
        refine pwp_block <| pwp_loop (α := Nat × List Int) (fun (m, q) => ⟨[(4, (.own 0 3 1 ((tk ++ [((k : Nat) : Int)]).length))), (5, (.own 1 3 1 n)), (9, (vi (pt.getD (((es.getD k (REdge.mk 0 0 (RQuat.mk 0 0 0 0))).fr).toNat) 0))), (10, (vi (pt.getD (((es.getD k (REdge.mk 0 0 (RQuat.mk 0 0 0 0))).to_).toNat) 0))), (21, (vl 56 6 encEdge es)), (22, (vin es.length)), (23, (vin k)), (46, (vin n)), (47, (vin m))], [(0, some (bm enc_i64 (tk ++ [((k : Nat) : Int)]))), (1, some (bm enc_i64 q))]⟩) (fun (m, q) => m ≤ n ∧ RlUp (min (pt.getD (es.getD k (REdge.mk 0 0 (RQuat.mk 0 0 0 0))).fr.toNat 0) (pt.getD (es.getD k (REdge.mk 0 0 (RQuat.mk 0 0 0 0))).to_.toNat 0)) (max (pt.getD (es.getD k (REdge.mk 0 0 (RQuat.mk 0 0 0 0))).fr.toNat 0) (pt.getD (es.getD k (REdge.mk 0 0 (RQuat.mk 0 0 0 0))).to_.toNat 0)) pt (List.range m) q) (fun (m, q) => n - m) (0, pt) wk ⟨Nat.zero_le _, RlUp_0 _ _ _⟩ ?_
        rintro ⟨m, q⟩ ⟨hm, hq⟩
        have hql := hq.1
        refine pwp_seq <| kx [(48, (vb (decide (((m : Nat) : Int) < ((n : Nat) : Int)))))] [] (zE oLt <| zZ) ?_
        refine pwp_seq <| pwp_cond rfl (fun h4 => ?_) (fun h4 => ?_)
        · replace h4 := of_decide_eq_true h4
          refine pwp_skip <| pwp_seq <| pwp_block <| pwp_seq <| kx [(11, (vin m))] [] (zM <| zM <| zZ) ?_
          refine pwp_seq <| kx [(57, (vb ((q.getD m 0) == (max (pt.getD (((es.getD k (REdge.mk 0 0 (RQuat.mk 0 0 0 0))).fr).toNat) 0) (pt.getD (((es.getD k (REdge.mk 0 0 (RQuat.mk 0 0 0 0))).to_).toNat) 0)))))] [] (zM <| zM <| zE (oXo el60 m) <| zR (oLp sh3 m (0 : Int)) <| zM <| zM <| zE (zMx (max (pt.getD (((es.getD k (REdge.mk 0 0 (RQuat.mk 0 0 0 0))).fr).toNat) 0) (pt.getD (((es.getD k (REdge.mk 0 0 (RQuat.mk 0 0 0 0))).to_).toNat) 0)) (hr := by first | omega | (dsimp only; omega))) <| zE oEq <| zZ) ?_
          refine pwp_cond rfl (fun h5 => ?_) (fun h5 => ?_)
          · replace h5 := eq_of_beq h5
            refine kx [] [(1, some (bm enc_i64 (q.set m (min (pt.getD (((es.getD k (REdge.mk 0 0 (RQuat.mk 0 0 0 0))).fr).toNat) 0) (pt.getD (((es.getD k (REdge.mk 0 0 (RQuat.mk 0 0 0 0))).to_).toNat) 0)))))] (zM <| zM <| zM <| zM <| zE (zMn (min (pt.getD (((es.getD k (REdge.mk 0 0 (RQuat.mk 0 0 0 0))).fr).toNat) 0) (pt.getD (((es.getD k (REdge.mk 0 0 (RQuat.mk 0 0 0 0))).to_).toNat) 0)) (hr := by first | omega | (dsimp only; omega))) <| zE (oXo el60 m) <| zT (oSp sh3 m (min (pt.getD (((es.getD k (REdge.mk 0 0 (RQuat.mk 0 0 0 0))).fr).toNat) 0) (pt.getD (((es.getD k (REdge.mk 0 0 (RQuat.mk 0 0 0 0))).to_).toNat) 0))) <| zZ) ?_
            refine kx [(47, (vin (m + 1)))] [] (zE (oAd (m + 1)) <| zM <| zZ) ?_
            exact ⟨(m + 1, q.set m (min (pt.getD (es.getD k (REdge.mk 0 0 (RQuat.mk 0 0 0 0))).fr.toNat 0) (pt.getD (es.getD k (REdge.mk 0 0 (RQuat.mk 0 0 0 0))).to_.toNat 0))), wk, ⟨by omega, by rw [List.range_succ]; exact RlUp_y hq (by omega) (by simp) h5⟩, (by first | omega | (dsimp only; omega))⟩
          · replace h5 := ne_of_beq_false h5
            refine pwp_skip <| kx [(47, (vin (m + 1)))] [] (zE (oAd (m + 1)) <| zM <| zZ) ?_
            exact ⟨(m + 1, q), wk, ⟨by omega, by rw [List.range_succ]; exact RlUp_n hq (by omega) (by simp) h5⟩, (by first | omega | (dsimp only; omega))⟩
        · replace h4 := of_decide_eq_false h4
          refine pwp_exit <| kx [(23, (vin (k + 1)))] [] (zE (oAd (k + 1)) <| zM <| zZ) ?_
          exact ⟨(k + 1, tk ++ [((k : Nat) : Int)], q), wk, ⟨by omega, by rw [(tPar_n (by rw [← hpt]; exact h3)).2, htk], by rw [(tPar_n (by rw [← hpt]; exact h3)).1, ← hpt]; exact (RlUp_end hq (fun j hj => List.mem_range.2 (by have := hq.1; omega))).trans (by simp only [mrg, kp, dp, if_true, Bool.false_eq_true, if_false]; rfl)⟩, (by first | omega | (dsimp only; omega))⟩
    · replace h2 := of_decide_eq_false h2
      refine pwp_exit <| pwp_seq <| pwp_sim (publish (t := 4) (k := 0) (es := List.map enc_i64 tk) rfl rfl (pub_cells _ _ (fun _ => rfl)) (map_len _ _ rfl) (pub_take _ _ (fun _ => rfl) rfl)) ?_
      refine pwp_sim (publish (t := 5) (k := 1) (es := List.map enc_i64 pt) rfl rfl (pub_cells _ _ (fun _ => rfl)) (map_len _ _ hpl) (pub_take _ _ (fun _ => rfl) hpl)) ?_
      refine kx [(4, (vl 3 1 enc_i64 tk)), (5, (vl 3 1 enc_i64 pt))] [] (zM <| zM <| zM <| zM <| zZ) ?_
      refine pwp_ret ⟨_, (.tmp (d := (.sl 3 1 (List.map enc_i64 tk))) rfl (.tmp (d := (.sl 3 1 (List.map enc_i64 pt))) rfl .nil)), ?_⟩
      rw [htk, hpt, show k = es.length by omega]; rfl
end Go.Proofs.YtihgdjljnaekmaaGreat
namespace Go.Proofs.YtihgdjljnaekmaaGreat
open Go.Fid
set_option maxRecDepth 4000
set_option linter.unusedVariables false
set_option linter.unusedSimpArgs false
theorem by28 : bytesB Tryz.prog 28 = some 32 := by kernel_rfl
theorem cb42 : callB Tryz.prog 42 = true := by kernel_rfl
theorem l8_abs (n : Nat) (es : List REdge) (heo : EsOk n es) (hn : n ≤ 64) (hl2 : es.length ≤ 256) : Takes Tryz.prog 42 [(.val (.int .i64 (((n : Nat) : Int)))), (.sl 56 6 (List.map encEdge es))] (.tup [(.sl 28 4 (List.map encQuat (absL n es))), (.val (.int .i64 ((((absC n es) : Nat) : Int))))]) := by
  have hpl := parL_len n es
  have htl : (treL n es).length ≤ es.length := tTak_len _ _ _ _
  refine fn_intro Tryz.func42 rfl cb42 rfl ?_
  show PWp _ _ _ _ ⟨[(0, (vin n)), (1, (vl 56 6 encEdge es))], []⟩
  refine pwp_seq <| kx [] [] (zE (oNl 28 4) <| zM <| zZ) ?_
  refine pwp_seq <| kx [(6, (vl 3 1 enc_i64 (treL n es))), (7, (vl 3 1 enc_i64 (parL n es)))] [] (zM <| zM <| zE (oCl (l8_tree n es heo hn hl2)) <| zM <| zE oEx <| zE oEx <| zM <| zM <| zZ) ?_
  refine pwp_seq <| kx [(8, (.own 0 28 4 n))] [(0, some (bxs encQuat (List.replicate n (RQuat.mk 0 0 0 0))))] (zM <| zN (oMkS 0 encQuat (RQuat.mk 0 0 0 0) n n el34 ze28 zo28 by28) <| zM <| zZ) ?_
  refine pwp_seq <| pwp_seq <| kx [(24, (vin n)), (25, (vin 0))] [] (zM <| zM <| zZ) ?_
  refine pwp_block <| pwp_loop (α := Nat × List RQuat) (fun (i, out) => ⟨[(1, (vl 56 6 encEdge es)), (6, (vl 3 1 enc_i64 (treL n es))), (7, (vl 3 1 enc_i64 (parL n es))), (8, (.own 0 28 4 n)), (24, (vin n)), (25, (vin i))], [(0, some (bxs encQuat out))]⟩) (fun (i, out) => i ≤ n ∧ RtUp n (parL n es) out i) (fun (i, out) => n - i) (0, List.replicate n (RQuat.mk 0 0 0 0)) wk ⟨Nat.zero_le _, RtUp_0 _ _⟩ ?_
  rintro ⟨i, out⟩ ⟨hi, hr⟩
  have hol := hr.1
  refine pwp_seq <| kx [(26, (vb (decide (((i : Nat) : Int) < ((n : Nat) : Int)))))] [] (zE oLt <| zZ) ?_
  refine pwp_seq <| pwp_cond rfl (fun h1 => ?_) (fun h1 => ?_)
  · replace h1 := of_decide_eq_true h1
    refine pwp_skip <| pwp_seq <| pwp_block <| pwp_seq <| kx [(9, (vin i))] [] (zM <| zM <| zZ) ?_
    refine pwp_seq <| kx [(33, (vb (((parL n es).getD i 0) == ((i : Nat) : Int))))] [] (zM <| zM <| zE (oXl el60 i (0 : Int) (L := (parL n es))) <| zE (oC1 sh3) <| zM <| zE oEq <| zZ) ?_
    refine pwp_cond rfl (fun h2 => ?_) (fun h2 => ?_)
    · replace h2 := eq_of_beq h2
      refine kx [] [(0, some (bxs encQuat (out.set i (RQuat.mk ((1 : Nat) : Int) 0 0 0))))] (zM <| zM <| zE (oBd pl28 ze28 zo28) <| zE (oXO el34 i) <| zT (oSA sh28 i (RQuat.mk ((1 : Nat) : Int) 0 0 0)) <| zZ) ?_
      refine kx [(25, (vin (i + 1)))] [] (zE (oAd (i + 1)) <| zM <| zZ) ?_
      exact ⟨(i + 1, out.set i (RQuat.mk 1 0 0 0)), wk, ⟨by omega, RtUp_y hr (by omega) h2⟩, (by first | omega | (dsimp only; omega))⟩
    · replace h2 := ne_of_beq_false h2
      refine pwp_skip <| kx [(25, (vin (i + 1)))] [] (zE (oAd (i + 1)) <| zM <| zZ) ?_
      exact ⟨(i + 1, out), wk, ⟨by omega, RtUp_n hr (by omega) h2⟩, (by first | omega | (dsimp only; omega))⟩
  · replace h1 := of_decide_eq_false h1
    refine pwp_exit <| pwp_seq <| pwp_seq <| kx [(10, (vb true))] [] (zM <| zZ) ?_
    refine pwp_block <| pwp_loop (α := Bool × List RQuat) (fun (ag, out) => ⟨[(1, (vl 56 6 encEdge es)), (6, (vl 3 1 enc_i64 (treL n es))), (8, (.own 0 28 4 n)), (10, (vb ag))], [(0, some (bxs encQuat out))]⟩) (fun (ag, out) => AbR n es out ∧ (ag = false → out = absL n es ∧ absC n es = 0)) (fun (ag, out) => mu2 out ag) (true, out) wk ⟨RtUp_end heo (by omega) hr, fun e => by cases e⟩ ?_
    rintro ⟨ag, out⟩ ⟨hab, hag⟩
    have hol := hab.1.1
    refine pwp_seq <| pwp_seq <| kx [(39, (vb ag))] [] (zM <| zZ) ?_
    refine pwp_cond (b := ag) rfl (fun h3 => ?_) (fun h3 => ?_)
    · refine pwp_skip <| pwp_block <| pwp_seq <| kx [(10, (vb false))] [] (zM <| zZ) ?_
      refine pwp_seq <| kx [(40, (vl 3 1 enc_i64 (treL n es))), (41, (vin ((treL n es).length))), (42, (vin 0))] [] (zM <| zE (oLm el60 (L := (treL n es))) <| zM <| zZ) ?_
      refine pwp_block <| pwp_loop (α := Nat × Bool × List RQuat) (fun (m, ah, ou) => ⟨[(1, (vl 56 6 encEdge es)), (6, (vl 3 1 enc_i64 (treL n es))), (8, (.own 0 28 4 n)), (10, (vb ah)), (40, (vl 3 1 enc_i64 (treL n es))), (41, (vin ((treL n es).length))), (42, (vin m))], [(0, some (bxs encQuat ou))]⟩) (fun (m, ah, ou) => m ≤ (treL n es).length ∧ AbW n es (treL n es) out ou ah m) (fun (m, ah, ou) => (treL n es).length - m) (0, false, out) wk ⟨Nat.zero_le _, AbW_0 hab⟩ ?_
      rintro ⟨m, ah, ou⟩ ⟨hm, hw⟩
      have houl := hw.1.1.1
      refine pwp_seq <| kx [(43, (vb (decide (((m : Nat) : Int) < (((treL n es).length : Nat) : Int)))))] [] (zE oLt <| zZ) ?_
      refine pwp_seq <| pwp_cond rfl (fun h4 => ?_) (fun h4 => ?_)
      · replace h4 := of_decide_eq_true h4
        obtain ⟨i_, hil, htm, him⟩ := tre_at (n := n) (es := es) (k := m) (by omega)
        have hix : i_ = ((treL n es).getD m 0).toNat := by rw [htm]; rfl
        subst hix
        have hei : EOkE n (es.getD (((treL n es).getD m 0)).toNat (REdge.mk 0 0 (RQuat.mk 0 0 0 0))) := eget heo hil
        obtain ⟨hei1, hei2, hei3, hei4, hei5, hei6⟩ := id hei
        refine pwp_skip <| pwp_seq <| pwp_block <| pwp_seq <| kx [(12, (vi ((treL n es).getD m 0)))] [] (zE (oXl el60 m (0 : Int) (L := (treL n es))) <| zE (oC1 sh3) <| zM <| zZ) ?_
        refine pwp_seq <| kx [(13, (.ref 1 0))] [(1, some (bx (encEdge (es.getD ((((treL n es).getD m 0)).toNat) (REdge.mk 0 0 (RQuat.mk 0 0 0 0))))))] (zM <| zM <| zE (oXl el39 ((((treL n es).getD m 0)).toNat) (REdge.mk 0 0 (RQuat.mk 0 0 0 0))) <| zE (oCa sh56) <| zH (oAl 1 ze56 zo56) <| zT (oSt sh56) <| zZ) ?_
        refine pwp_seq <| kx [(14, (vin 0))] [] (zM <| zZ) ?_
        refine pwp_seq <| pwp_seq <| kx [(15, (.ref 2 0))] [(2, some (bx (encQuat (RQuat.mk 0 0 0 0))))] (zE (oBd pl28 ze28 zo28) <| zH (oAl 2 ze28 zo28) <| zT (oSt sh28) <| zZ) ?_
        refine pwp_block <| pwp_seq <| kd [(51, (vb (!(decide ([(ou.getD (((es.getD ((((treL n es).getD m 0)).toNat) (REdge.mk 0 0 (RQuat.mk 0 0 0 0))).fr).toNat) (RQuat.mk 0 0 0 0)).a, (ou.getD (((es.getD ((((treL n es).getD m 0)).toNat) (REdge.mk 0 0 (RQuat.mk 0 0 0 0))).fr).toNat) (RQuat.mk 0 0 0 0)).b, (ou.getD (((es.getD ((((treL n es).getD m 0)).toNat) (REdge.mk 0 0 (RQuat.mk 0 0 0 0))).fr).toNat) (RQuat.mk 0 0 0 0)).c, (ou.getD (((es.getD ((((treL n es).getD m 0)).toNat) (REdge.mk 0 0 (RQuat.mk 0 0 0 0))).fr).toNat) (RQuat.mk 0 0 0 0)).d] = [0, 0, 0, 0])) && (decide ([(ou.getD (((es.getD ((((treL n es).getD m 0)).toNat) (REdge.mk 0 0 (RQuat.mk 0 0 0 0))).to_).toNat) (RQuat.mk 0 0 0 0)).a, (ou.getD (((es.getD ((((treL n es).getD m 0)).toNat) (REdge.mk 0 0 (RQuat.mk 0 0 0 0))).to_).toNat) (RQuat.mk 0 0 0 0)).b, (ou.getD (((es.getD ((((treL n es).getD m 0)).toNat) (REdge.mk 0 0 (RQuat.mk 0 0 0 0))).to_).toNat) (RQuat.mk 0 0 0 0)).c, (ou.getD (((es.getD ((((treL n es).getD m 0)).toNat) (REdge.mk 0 0 (RQuat.mk 0 0 0 0))).to_).toNat) (RQuat.mk 0 0 0 0)).d] = [0, 0, 0, 0])))))] [] mo ?_ ?_
        · refine wM <| wE (oFr fo56_0) <| wR (oL1 sh3) <| wE (oXO el34 (((es.getD ((((treL n es).getD m 0)).toNat) (REdge.mk 0 0 (RQuat.mk 0 0 0 0))).fr).toNat)) <| wR (oLA sh28 (((es.getD ((((treL n es).getD m 0)).toNat) (REdge.mk 0 0 (RQuat.mk 0 0 0 0))).fr).toNat) (RQuat.mk 0 0 0 0)) <| wR (oLa sh28) <| wE (oNs eqs28 .i64 [(ou.getD (((es.getD ((((treL n es).getD m 0)).toNat) (REdge.mk 0 0 (RQuat.mk 0 0 0 0))).fr).toNat) (RQuat.mk 0 0 0 0)).a, (ou.getD (((es.getD ((((treL n es).getD m 0)).toNat) (REdge.mk 0 0 (RQuat.mk 0 0 0 0))).fr).toNat) (RQuat.mk 0 0 0 0)).b, (ou.getD (((es.getD ((((treL n es).getD m 0)).toNat) (REdge.mk 0 0 (RQuat.mk 0 0 0 0))).fr).toNat) (RQuat.mk 0 0 0 0)).c, (ou.getD (((es.getD ((((treL n es).getD m 0)).toNat) (REdge.mk 0 0 (RQuat.mk 0 0 0 0))).fr).toNat) (RQuat.mk 0 0 0 0)).d] [0, 0, 0, 0]) <| wE (oV (vb (!(decide ([(ou.getD (((es.getD ((((treL n es).getD m 0)).toNat) (REdge.mk 0 0 (RQuat.mk 0 0 0 0))).fr).toNat) (RQuat.mk 0 0 0 0)).a, (ou.getD (((es.getD ((((treL n es).getD m 0)).toNat) (REdge.mk 0 0 (RQuat.mk 0 0 0 0))).fr).toNat) (RQuat.mk 0 0 0 0)).b, (ou.getD (((es.getD ((((treL n es).getD m 0)).toNat) (REdge.mk 0 0 (RQuat.mk 0 0 0 0))).fr).toNat) (RQuat.mk 0 0 0 0)).c, (ou.getD (((es.getD ((((treL n es).getD m 0)).toNat) (REdge.mk 0 0 (RQuat.mk 0 0 0 0))).fr).toNat) (RQuat.mk 0 0 0 0)).d] = [0, 0, 0, 0])))) (mv_ok (by kernel_rfl))) <| ?_
          rcases hb5 : (!(decide ([(ou.getD (((es.getD ((((treL n es).getD m 0)).toNat) (REdge.mk 0 0 (RQuat.mk 0 0 0 0))).fr).toNat) (RQuat.mk 0 0 0 0)).a, (ou.getD (((es.getD ((((treL n es).getD m 0)).toNat) (REdge.mk 0 0 (RQuat.mk 0 0 0 0))).fr).toNat) (RQuat.mk 0 0 0 0)).b, (ou.getD (((es.getD ((((treL n es).getD m 0)).toNat) (REdge.mk 0 0 (RQuat.mk 0 0 0 0))).fr).toNat) (RQuat.mk 0 0 0 0)).c, (ou.getD (((es.getD ((((treL n es).getD m 0)).toNat) (REdge.mk 0 0 (RQuat.mk 0 0 0 0))).fr).toNat) (RQuat.mk 0 0 0 0)).d] = [0, 0, 0, 0]))) with _ | _
          · exact wK <| wK <| wK <| wK <| wK <| wK <| wK <| wE oPf <| wM <| wZ
          · exact wM <| wE (oFr fo56_1) <| wR (oL1 sh3) <| wE (oXO el34 (((es.getD ((((treL n es).getD m 0)).toNat) (REdge.mk 0 0 (RQuat.mk 0 0 0 0))).to_).toNat)) <| wR (oLA sh28 (((es.getD ((((treL n es).getD m 0)).toNat) (REdge.mk 0 0 (RQuat.mk 0 0 0 0))).to_).toNat) (RQuat.mk 0 0 0 0)) <| wR (oLa sh28) <| wE (oEs eqs28 .i64 [(ou.getD (((es.getD ((((treL n es).getD m 0)).toNat) (REdge.mk 0 0 (RQuat.mk 0 0 0 0))).to_).toNat) (RQuat.mk 0 0 0 0)).a, (ou.getD (((es.getD ((((treL n es).getD m 0)).toNat) (REdge.mk 0 0 (RQuat.mk 0 0 0 0))).to_).toNat) (RQuat.mk 0 0 0 0)).b, (ou.getD (((es.getD ((((treL n es).getD m 0)).toNat) (REdge.mk 0 0 (RQuat.mk 0 0 0 0))).to_).toNat) (RQuat.mk 0 0 0 0)).c, (ou.getD (((es.getD ((((treL n es).getD m 0)).toNat) (REdge.mk 0 0 (RQuat.mk 0 0 0 0))).to_).toNat) (RQuat.mk 0 0 0 0)).d] [0, 0, 0, 0]) <| wE oPa <| wM <| wZ
        refine pwp_cond rfl (fun h6 => ?_) (fun h6 => ?_)
        · have hz := fw_t h6
          have hfw := ab_fwd heo hw.1.1 him hil hz.1
          refine pwp_seq <| kd [(14, (vin (qC (qmul (ou.getD (((es.getD ((((treL n es).getD m 0)).toNat) (REdge.mk 0 0 (RQuat.mk 0 0 0 0))).fr).toNat) (RQuat.mk 0 0 0 0)) (qV (qcj ((es.getD ((((treL n es).getD m 0)).toNat) (REdge.mk 0 0 (RQuat.mk 0 0 0 0))).turn)))))))] [(0, some (bxs encQuat (ou.set (((es.getD ((((treL n es).getD m 0)).toNat) (REdge.mk 0 0 (RQuat.mk 0 0 0 0))).to_).toNat) (qV (qmul (ou.getD (((es.getD ((((treL n es).getD m 0)).toNat) (REdge.mk 0 0 (RQuat.mk 0 0 0 0))).fr).toNat) (RQuat.mk 0 0 0 0)) (qV (qcj ((es.getD ((((treL n es).getD m 0)).toNat) (REdge.mk 0 0 (RQuat.mk 0 0 0 0))).turn))))))))] mo (wM <| wE (oFr fo56_1) <| wR (oL1 sh3) <| wM <| wE (oFr fo56_0) <| wR (oL1 sh3) <| wE (oXO el34 (((es.getD ((((treL n es).getD m 0)).toNat) (REdge.mk 0 0 (RQuat.mk 0 0 0 0))).fr).toNat)) <| wR (oLA sh28 (((es.getD ((((treL n es).getD m 0)).toNat) (REdge.mk 0 0 (RQuat.mk 0 0 0 0))).fr).toNat) (RQuat.mk 0 0 0 0)) <| wE (oFr fo56_2) <| wR (oLa sh28) <| wE (oCl (l8_over (ou.getD (((es.getD ((((treL n es).getD m 0)).toNat) (REdge.mk 0 0 (RQuat.mk 0 0 0 0))).fr).toNat) (RQuat.mk 0 0 0 0)) ((es.getD ((((treL n es).getD m 0)).toNat) (REdge.mk 0 0 (RQuat.mk 0 0 0 0))).turn) ((hw.1.1.at heo (by omega) hz.1).1) hei6)) <| wM <| wE oEx <| wE oEx <| wE (oXO el34 (((es.getD ((((treL n es).getD m 0)).toNat) (REdge.mk 0 0 (RQuat.mk 0 0 0 0))).to_).toNat)) <| wT (oSA sh28 (((es.getD ((((treL n es).getD m 0)).toNat) (REdge.mk 0 0 (RQuat.mk 0 0 0 0))).to_).toNat) (qV (qmul (ou.getD (((es.getD ((((treL n es).getD m 0)).toNat) (REdge.mk 0 0 (RQuat.mk 0 0 0 0))).fr).toNat) (RQuat.mk 0 0 0 0)) (qV (qcj ((es.getD ((((treL n es).getD m 0)).toNat) (REdge.mk 0 0 (RQuat.mk 0 0 0 0))).turn)))))) <| wM <| wZ) ?_
          refine kx [(10, (vb true))] [] (zM <| zZ) ?_
          refine pwp_seq <| kx [(116, (vb ((((qC (qmul (ou.getD (((es.getD ((((treL n es).getD m 0)).toNat) (REdge.mk 0 0 (RQuat.mk 0 0 0 0))).fr).toNat) (RQuat.mk 0 0 0 0)) (qV (qcj ((es.getD ((((treL n es).getD m 0)).toNat) (REdge.mk 0 0 (RQuat.mk 0 0 0 0))).turn))))) : Nat) : Int) != ((0 : Nat) : Int))))] [] (zM <| zE oNe <| zZ) ?_
          refine pwp_cond rfl (fun h7 => ?_) (fun h7 => ?_)
          · replace h7 := bne_iff_ne.1 h7
            refine pwp_seq <| kx [(4, (vl 28 4 encQuat [])), (5, (vin (qC (qmul (ou.getD (((es.getD ((((treL n es).getD m 0)).toNat) (REdge.mk 0 0 (RQuat.mk 0 0 0 0))).fr).toNat) (RQuat.mk 0 0 0 0)) (qV (qcj ((es.getD ((((treL n es).getD m 0)).toNat) (REdge.mk 0 0 (RQuat.mk 0 0 0 0))).turn)))))))] [] (zM <| zE (oNl 28 4) <| zM <| zZ) ?_
            refine pwp_ret ⟨_, (.tmp (d := (.sl 28 4 (List.map encQuat []))) rfl (.tmp (d := (.val (.int .i64 ((((qC (qmul (ou.getD (((es.getD ((((treL n es).getD m 0)).toNat) (REdge.mk 0 0 (RQuat.mk 0 0 0 0))).fr).toNat) (RQuat.mk 0 0 0 0)) (qV (qcj ((es.getD ((((treL n es).getD m 0)).toNat) (REdge.mk 0 0 (RQuat.mk 0 0 0 0))).turn))))) : Nat) : Int))))) rfl .nil)), ?_⟩
            obtain ⟨q1, q2, q3⟩ := ab_no (j := (es.getD (((treL n es).getD m 0)).toNat (REdge.mk 0 0 (RQuat.mk 0 0 0 0))).to_.toNat) heo (by omega) hfw.1 hfw.2 (rot_ne h7)
            rw [q1, q2]; show _ = _; rw [show qC (qmul (ou.getD (es.getD (((treL n es).getD m 0)).toNat (REdge.mk 0 0 (RQuat.mk 0 0 0 0))).fr.toNat (RQuat.mk 0 0 0 0)) (qV (qcj (es.getD (((treL n es).getD m 0)).toNat (REdge.mk 0 0 (RQuat.mk 0 0 0 0))).turn))) = 3 from q3]; rfl
          · replace h7 := bne_eq_false_iff_eq.1 h7
            refine pwp_skip <| kx [(42, (vin (m + 1)))] [] (zE (oAd (m + 1)) <| zM <| zZ) ?_
            exact ⟨(m + 1, true, ou.set (es.getD (((treL n es).getD m 0)).toNat (REdge.mk 0 0 (RQuat.mk 0 0 0 0))).to_.toNat (qV (qmul (ou.getD (es.getD (((treL n es).getD m 0)).toNat (REdge.mk 0 0 (RQuat.mk 0 0 0 0))).fr.toNat (RQuat.mk 0 0 0 0)) (qV (qcj (es.getD (((treL n es).getD m 0)).toNat (REdge.mk 0 0 (RQuat.mk 0 0 0 0))).turn))))), wk, ⟨by omega, hw.put' (j := (es.getD (((treL n es).getD m 0)).toNat (REdge.mk 0 0 (RQuat.mk 0 0 0 0))).to_.toNat) heo (by omega) hz.2 hfw (show qC (qmul (ou.getD (es.getD (((treL n es).getD m 0)).toNat (REdge.mk 0 0 (RQuat.mk 0 0 0 0))).fr.toNat (RQuat.mk 0 0 0 0)) (qV (qcj (es.getD (((treL n es).getD m 0)).toNat (REdge.mk 0 0 (RQuat.mk 0 0 0 0))).turn))) = 0 by omega)⟩, (by first | omega | (dsimp only; omega))⟩
        · refine pwp_seq <| kd [(83, (vb ((decide ([(ou.getD (((es.getD ((((treL n es).getD m 0)).toNat) (REdge.mk 0 0 (RQuat.mk 0 0 0 0))).fr).toNat) (RQuat.mk 0 0 0 0)).a, (ou.getD (((es.getD ((((treL n es).getD m 0)).toNat) (REdge.mk 0 0 (RQuat.mk 0 0 0 0))).fr).toNat) (RQuat.mk 0 0 0 0)).b, (ou.getD (((es.getD ((((treL n es).getD m 0)).toNat) (REdge.mk 0 0 (RQuat.mk 0 0 0 0))).fr).toNat) (RQuat.mk 0 0 0 0)).c, (ou.getD (((es.getD ((((treL n es).getD m 0)).toNat) (REdge.mk 0 0 (RQuat.mk 0 0 0 0))).fr).toNat) (RQuat.mk 0 0 0 0)).d] = [0, 0, 0, 0])) && !(decide ([(ou.getD (((es.getD ((((treL n es).getD m 0)).toNat) (REdge.mk 0 0 (RQuat.mk 0 0 0 0))).to_).toNat) (RQuat.mk 0 0 0 0)).a, (ou.getD (((es.getD ((((treL n es).getD m 0)).toNat) (REdge.mk 0 0 (RQuat.mk 0 0 0 0))).to_).toNat) (RQuat.mk 0 0 0 0)).b, (ou.getD (((es.getD ((((treL n es).getD m 0)).toNat) (REdge.mk 0 0 (RQuat.mk 0 0 0 0))).to_).toNat) (RQuat.mk 0 0 0 0)).c, (ou.getD (((es.getD ((((treL n es).getD m 0)).toNat) (REdge.mk 0 0 (RQuat.mk 0 0 0 0))).to_).toNat) (RQuat.mk 0 0 0 0)).d] = [0, 0, 0, 0])))))] [] mo ?_ ?_
          · refine wM <| wE (oFr fo56_0) <| wR (oL1 sh3) <| wE (oXO el34 (((es.getD ((((treL n es).getD m 0)).toNat) (REdge.mk 0 0 (RQuat.mk 0 0 0 0))).fr).toNat)) <| wR (oLA sh28 (((es.getD ((((treL n es).getD m 0)).toNat) (REdge.mk 0 0 (RQuat.mk 0 0 0 0))).fr).toNat) (RQuat.mk 0 0 0 0)) <| wR (oLa sh28) <| wE (oEs eqs28 .i64 [(ou.getD (((es.getD ((((treL n es).getD m 0)).toNat) (REdge.mk 0 0 (RQuat.mk 0 0 0 0))).fr).toNat) (RQuat.mk 0 0 0 0)).a, (ou.getD (((es.getD ((((treL n es).getD m 0)).toNat) (REdge.mk 0 0 (RQuat.mk 0 0 0 0))).fr).toNat) (RQuat.mk 0 0 0 0)).b, (ou.getD (((es.getD ((((treL n es).getD m 0)).toNat) (REdge.mk 0 0 (RQuat.mk 0 0 0 0))).fr).toNat) (RQuat.mk 0 0 0 0)).c, (ou.getD (((es.getD ((((treL n es).getD m 0)).toNat) (REdge.mk 0 0 (RQuat.mk 0 0 0 0))).fr).toNat) (RQuat.mk 0 0 0 0)).d] [0, 0, 0, 0]) <| wE (oV (vb (decide ([(ou.getD (((es.getD ((((treL n es).getD m 0)).toNat) (REdge.mk 0 0 (RQuat.mk 0 0 0 0))).fr).toNat) (RQuat.mk 0 0 0 0)).a, (ou.getD (((es.getD ((((treL n es).getD m 0)).toNat) (REdge.mk 0 0 (RQuat.mk 0 0 0 0))).fr).toNat) (RQuat.mk 0 0 0 0)).b, (ou.getD (((es.getD ((((treL n es).getD m 0)).toNat) (REdge.mk 0 0 (RQuat.mk 0 0 0 0))).fr).toNat) (RQuat.mk 0 0 0 0)).c, (ou.getD (((es.getD ((((treL n es).getD m 0)).toNat) (REdge.mk 0 0 (RQuat.mk 0 0 0 0))).fr).toNat) (RQuat.mk 0 0 0 0)).d] = [0, 0, 0, 0]))) (mv_ok (by kernel_rfl))) <| ?_
            rcases hb8 : (decide ([(ou.getD (((es.getD ((((treL n es).getD m 0)).toNat) (REdge.mk 0 0 (RQuat.mk 0 0 0 0))).fr).toNat) (RQuat.mk 0 0 0 0)).a, (ou.getD (((es.getD ((((treL n es).getD m 0)).toNat) (REdge.mk 0 0 (RQuat.mk 0 0 0 0))).fr).toNat) (RQuat.mk 0 0 0 0)).b, (ou.getD (((es.getD ((((treL n es).getD m 0)).toNat) (REdge.mk 0 0 (RQuat.mk 0 0 0 0))).fr).toNat) (RQuat.mk 0 0 0 0)).c, (ou.getD (((es.getD ((((treL n es).getD m 0)).toNat) (REdge.mk 0 0 (RQuat.mk 0 0 0 0))).fr).toNat) (RQuat.mk 0 0 0 0)).d] = [0, 0, 0, 0])) with _ | _
            · replace hb8 := of_decide_eq_false hb8
              exact wK <| wK <| wK <| wK <| wK <| wK <| wK <| wE oPf <| wM <| wZ
            · replace hb8 := of_decide_eq_true hb8
              exact wM <| wE (oFr fo56_1) <| wR (oL1 sh3) <| wE (oXO el34 (((es.getD ((((treL n es).getD m 0)).toNat) (REdge.mk 0 0 (RQuat.mk 0 0 0 0))).to_).toNat)) <| wR (oLA sh28 (((es.getD ((((treL n es).getD m 0)).toNat) (REdge.mk 0 0 (RQuat.mk 0 0 0 0))).to_).toNat) (RQuat.mk 0 0 0 0)) <| wR (oLa sh28) <| wE (oNs eqs28 .i64 [(ou.getD (((es.getD ((((treL n es).getD m 0)).toNat) (REdge.mk 0 0 (RQuat.mk 0 0 0 0))).to_).toNat) (RQuat.mk 0 0 0 0)).a, (ou.getD (((es.getD ((((treL n es).getD m 0)).toNat) (REdge.mk 0 0 (RQuat.mk 0 0 0 0))).to_).toNat) (RQuat.mk 0 0 0 0)).b, (ou.getD (((es.getD ((((treL n es).getD m 0)).toNat) (REdge.mk 0 0 (RQuat.mk 0 0 0 0))).to_).toNat) (RQuat.mk 0 0 0 0)).c, (ou.getD (((es.getD ((((treL n es).getD m 0)).toNat) (REdge.mk 0 0 (RQuat.mk 0 0 0 0))).to_).toNat) (RQuat.mk 0 0 0 0)).d] [0, 0, 0, 0]) <| wE oPa <| wM <| wZ
          refine pwp_cond rfl (fun h9 => ?_) (fun h9 => ?_)
          · have hz := bw_t h9
            have hbw := ab_bwd heo hw.1.1 him hil hz.2
            refine pwp_seq <| kd [(14, (vin (qC (qmul (ou.getD (((es.getD ((((treL n es).getD m 0)).toNat) (REdge.mk 0 0 (RQuat.mk 0 0 0 0))).to_).toNat) (RQuat.mk 0 0 0 0)) ((es.getD ((((treL n es).getD m 0)).toNat) (REdge.mk 0 0 (RQuat.mk 0 0 0 0))).turn)))))] [(0, some (bxs encQuat (ou.set (((es.getD ((((treL n es).getD m 0)).toNat) (REdge.mk 0 0 (RQuat.mk 0 0 0 0))).fr).toNat) (qV (qmul (ou.getD (((es.getD ((((treL n es).getD m 0)).toNat) (REdge.mk 0 0 (RQuat.mk 0 0 0 0))).to_).toNat) (RQuat.mk 0 0 0 0)) ((es.getD ((((treL n es).getD m 0)).toNat) (REdge.mk 0 0 (RQuat.mk 0 0 0 0))).turn))))))] mo (wM <| wE (oFr fo56_0) <| wR (oL1 sh3) <| wM <| wE (oFr fo56_1) <| wR (oL1 sh3) <| wE (oXO el34 (((es.getD ((((treL n es).getD m 0)).toNat) (REdge.mk 0 0 (RQuat.mk 0 0 0 0))).to_).toNat)) <| wR (oLA sh28 (((es.getD ((((treL n es).getD m 0)).toNat) (REdge.mk 0 0 (RQuat.mk 0 0 0 0))).to_).toNat) (RQuat.mk 0 0 0 0)) <| wE (oFr fo56_2) <| wR (oLa sh28) <| wE (oCl (l8_mul (ou.getD (((es.getD ((((treL n es).getD m 0)).toNat) (REdge.mk 0 0 (RQuat.mk 0 0 0 0))).to_).toNat) (RQuat.mk 0 0 0 0)) ((es.getD ((((treL n es).getD m 0)).toNat) (REdge.mk 0 0 (RQuat.mk 0 0 0 0))).turn) ((hw.1.1.at heo (by omega) hz.2).1) hei6)) <| wM <| wE oEx <| wE oEx <| wE (oXO el34 (((es.getD ((((treL n es).getD m 0)).toNat) (REdge.mk 0 0 (RQuat.mk 0 0 0 0))).fr).toNat)) <| wT (oSA sh28 (((es.getD ((((treL n es).getD m 0)).toNat) (REdge.mk 0 0 (RQuat.mk 0 0 0 0))).fr).toNat) (qV (qmul (ou.getD (((es.getD ((((treL n es).getD m 0)).toNat) (REdge.mk 0 0 (RQuat.mk 0 0 0 0))).to_).toNat) (RQuat.mk 0 0 0 0)) ((es.getD ((((treL n es).getD m 0)).toNat) (REdge.mk 0 0 (RQuat.mk 0 0 0 0))).turn)))) <| wM <| wZ) ?_
            refine kx [(10, (vb true))] [] (zM <| zZ) ?_
            refine pwp_seq <| kx [(116, (vb ((((qC (qmul (ou.getD (((es.getD ((((treL n es).getD m 0)).toNat) (REdge.mk 0 0 (RQuat.mk 0 0 0 0))).to_).toNat) (RQuat.mk 0 0 0 0)) ((es.getD ((((treL n es).getD m 0)).toNat) (REdge.mk 0 0 (RQuat.mk 0 0 0 0))).turn))) : Nat) : Int) != ((0 : Nat) : Int))))] [] (zM <| zE oNe <| zZ) ?_
            refine pwp_cond rfl (fun h10 => ?_) (fun h10 => ?_)
            · replace h10 := bne_iff_ne.1 h10
              refine pwp_seq <| kx [(4, (vl 28 4 encQuat [])), (5, (vin (qC (qmul (ou.getD (((es.getD ((((treL n es).getD m 0)).toNat) (REdge.mk 0 0 (RQuat.mk 0 0 0 0))).to_).toNat) (RQuat.mk 0 0 0 0)) ((es.getD ((((treL n es).getD m 0)).toNat) (REdge.mk 0 0 (RQuat.mk 0 0 0 0))).turn)))))] [] (zM <| zE (oNl 28 4) <| zM <| zZ) ?_
              refine pwp_ret ⟨_, (.tmp (d := (.sl 28 4 (List.map encQuat []))) rfl (.tmp (d := (.val (.int .i64 ((((qC (qmul (ou.getD (((es.getD ((((treL n es).getD m 0)).toNat) (REdge.mk 0 0 (RQuat.mk 0 0 0 0))).to_).toNat) (RQuat.mk 0 0 0 0)) ((es.getD ((((treL n es).getD m 0)).toNat) (REdge.mk 0 0 (RQuat.mk 0 0 0 0))).turn))) : Nat) : Int))))) rfl .nil)), ?_⟩
              obtain ⟨q1, q2, q3⟩ := ab_no (j := (es.getD (((treL n es).getD m 0)).toNat (REdge.mk 0 0 (RQuat.mk 0 0 0 0))).fr.toNat) heo (by omega) hbw.1 hbw.2 (rot_ne h10)
              rw [q1, q2]; show _ = _; rw [show qC (qmul (ou.getD (es.getD (((treL n es).getD m 0)).toNat (REdge.mk 0 0 (RQuat.mk 0 0 0 0))).to_.toNat (RQuat.mk 0 0 0 0)) (es.getD (((treL n es).getD m 0)).toNat (REdge.mk 0 0 (RQuat.mk 0 0 0 0))).turn) = 3 from q3]; rfl
            · replace h10 := bne_eq_false_iff_eq.1 h10
              refine pwp_skip <| kx [(42, (vin (m + 1)))] [] (zE (oAd (m + 1)) <| zM <| zZ) ?_
              exact ⟨(m + 1, true, ou.set (es.getD (((treL n es).getD m 0)).toNat (REdge.mk 0 0 (RQuat.mk 0 0 0 0))).fr.toNat (qV (qmul (ou.getD (es.getD (((treL n es).getD m 0)).toNat (REdge.mk 0 0 (RQuat.mk 0 0 0 0))).to_.toNat (RQuat.mk 0 0 0 0)) (es.getD (((treL n es).getD m 0)).toNat (REdge.mk 0 0 (RQuat.mk 0 0 0 0))).turn))), wk, ⟨by omega, hw.put' (j := (es.getD (((treL n es).getD m 0)).toNat (REdge.mk 0 0 (RQuat.mk 0 0 0 0))).fr.toNat) heo (by omega) hz.1 hbw (show qC (qmul (ou.getD (es.getD (((treL n es).getD m 0)).toNat (REdge.mk 0 0 (RQuat.mk 0 0 0 0))).to_.toNat (RQuat.mk 0 0 0 0)) (es.getD (((treL n es).getD m 0)).toNat (REdge.mk 0 0 (RQuat.mk 0 0 0 0))).turn) = 0 by omega)⟩, (by first | omega | (dsimp only; omega))⟩
          · refine pwp_skip <| pwp_seq <| kx [(116, (vb false))] [] (zM <| zE (oBk false oNe) <| zZ) ?_
            refine pwp_cond (b := false) (by kernel_rfl) (fun h => by cases h) (fun _ => ?_)
            refine pwp_skip <| kx [(42, (vin (m + 1)))] [] (zE (oAd (m + 1)) <| zM <| zZ) ?_
            exact ⟨(m + 1, ah, ou), wk, ⟨by omega, hw.skip (cl_of h6 h9)⟩, (by first | omega | (dsimp only; omega))⟩
      · replace h4 := of_decide_eq_false h4
        refine pwp_exit ?_
        exact ⟨(ah, ou), wk, ⟨hw.1, fun e => by subst e; exact AbW_end heo hw (by omega)⟩, (hw.mu h3)⟩
    · refine pwp_exit <| pwp_seq <| pwp_sim (publish (t := 8) (k := 0) (es := List.map encQuat out) rfl rfl (pubs_cells _ _ (fun _ => rfl)) (map_len _ _ hol) (pubs_take encQuat out (fun _ => rfl) hol)) ?_
      refine kx [(4, (vl 28 4 encQuat out)), (5, (vin 0))] [] (zM <| zM <| zM <| zZ) ?_
      refine pwp_ret ⟨_, (.tmp (d := (.sl 28 4 (List.map encQuat out))) rfl (.tmp (d := (.val (.int .i64 (((0 : Nat) : Int))))) rfl .nil)), ?_⟩
      obtain ⟨q1, q2⟩ := hag h3
      rw [q1, q2]; rfl
end Go.Proofs.YtihgdjljnaekmaaGreat
