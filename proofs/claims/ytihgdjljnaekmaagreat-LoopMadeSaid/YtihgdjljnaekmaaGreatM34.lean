/- Part 34 of a proof: rules, plain facts, and functions walked. -/
import Derived.Test.YtihgdjljnaekmaaGreatM33
import Derived.Test.YtihgdjljnaekmaaGreatM30
namespace Go.Proofs.YtihgdjljnaekmaaGreat
open Go.Fid
set_option maxRecDepth 4000
set_option linter.unusedVariables false
set_option linter.unusedSimpArgs false
theorem by4 : bytesB Tryz.prog 4 = some 1 := by kernel_rfl
theorem cb57 : callB Tryz.prog 57 = true := by kernel_rfl
theorem ze34 : zeroB Tryz.prog 34 = some [.slice none 0 0] := by kernel_rfl
theorem ze60 : zeroB Tryz.prog 60 = some [.slice none 0 0] := by kernel_rfl
theorem ze101 : zeroB Tryz.prog 101 = some [.slice none 0 0] := by kernel_rfl
theorem ze145 : zeroB Tryz.prog 145 = some [.nilFunc] := by kernel_rfl
theorem zo34 : ZOk [.slice none 0 0] [.sl 28 4 []] := by simp [ZOk, Value.oneCell']
theorem zo60 : ZOk [.slice none 0 0] [.sl 3 1 []] := by simp [ZOk, Value.oneCell']
theorem zo101 : ZOk [.slice none 0 0] [.sl 4 1 []] := by simp [ZOk, Value.oneCell']
theorem zo145 : ZOk [.nilFunc] [.val .nilFunc] := by simp [ZOk, Value.oneCell']
theorem l_abs (n : Nat) (es : List REdge) (heo : EsOk n es) (hn : n ≤ 64) (hl2 : es.length ≤ 256) : Takes Tryz.prog 57 [(.val (.int .i64 (((n : Nat) : Int)))), (.sl 56 6 (List.map encEdge es))] (.tup [(.sl 28 4 (List.map encQuat (absL n es))), (.val (.int .i64 ((((absC n es) : Nat) : Int))))]) := by
  let y1 := (bx (.sl 3 1 (List.map enc_i64 (treL n es))))
  refine fn_intro Tryz.func57 rfl cb57 rfl ?_
  show PWp _ _ _ _ ⟨[(0, (vin n)), (1, (vl 56 6 encEdge es))], []⟩
  refine pwp_seq <| kx [(3, (.ref 0 0))] [(0, some (bx (.sl 56 6 (List.map encEdge es))))] (zN (oBx 0) <| zE (oNl 28 4) <| zM <| zZ) ?_
  refine pwp_seq <| kx [(6, (.ref 2 0))] [(1, some (bxs encQuat (List.replicate n (RQuat.mk 0 0 0 0)))), (2, some [(.own 1 28 4 n)])] (zM <| zN (oMkS 1 encQuat (RQuat.mk 0 0 0 0) n n el34 ze28 zo28 by28) <| zH (oAl 2 ze34 zo34) <| zT (oSo sh34) <| zZ) ?_
  refine pwp_seq <| kx [(7, (.ref 4 0))] [(3, some (bm enc_bool (List.replicate n false))), (4, some [(.own 3 4 1 n)])] (zM <| zH (oMk 3 enc_bool (false : Bool) n n el101 ze4 zo4 by4) <| zH (oAl 4 ze101 zo101) <| zT (oSo sh101) <| zZ) ?_
  refine pwp_seq <| kx [(8, (.ref 5 0))] [(5, some y1)] (zM <| zR (oL1 sh39) <| zE (oCl (l_tree n es heo hn hl2)) <| zH (oAl 5 ze60 zo60) <| zT (oSt sh60) <| zZ) ?_
  refine pwp_seq <| kx [(9, (.ref 6 0))] [(6, some (bx (.val .nilFunc)))] (zH (oAl 6 ze145 zo145) <| zZ) ?_
  refine pwp_seq <| kx [] [(6, some [(.clo 101 [4, 5, 0, 2, 6])])] (zE (oMf [4, 5, 0, 2, 6]) <| zT (oSc sh145) <| zZ) ?_
  refine pwp_seq <| pwp_seq <| kx [(20, (vin n)), (21, (vin 0))] [] (zM <| zM <| zZ) ?_
  refine pwp_block <| pwp_loop (α := Nat × List Bool × List RQuat) (fun (i, kn, ou) => ⟨[(6, (.ref 2 0)), (7, (.ref 4 0)), (9, (.ref 6 0)), (20, (vin n)), (21, (vin i))], [(0, some (bx (.sl 56 6 (List.map encEdge es)))), (1, some (bxs encQuat ou)), (2, some [(.own 1 28 4 n)]), (3, some (bm enc_bool kn)), (4, some [(.own 3 4 1 n)]), (5, some y1), (6, some [(.clo 101 [4, 5, 0, 2, 6])])]⟩) (fun (i, kn, ou) => i ≤ n ∧ AlI n es i kn ou) (fun (i, kn, ou) => n - i) (0, List.replicate n false, List.replicate n (RQuat.mk 0 0 0 0)) wk ⟨Nat.zero_le _, AlI_0⟩ ?_
  rintro ⟨i, kn, ou⟩ ⟨hi, ha⟩
  have hkl : kn.length = n := ha.fi.1
  have hol : ou.length = n := ha.fi.2.1.1
  refine pwp_seq <| kx [(22, (vb (decide (((i : Nat) : Int) < ((n : Nat) : Int)))))] [] (zE oLt <| zZ) ?_
  refine pwp_seq <| pwp_cond rfl (fun h1 => ?_) (fun h1 => ?_)
  · replace h1 := of_decide_eq_true h1
    refine pwp_skip <| pwp_seq <| pwp_block <| pwp_seq <| kx [(10, (vin i))] [] (zM <| zM <| zZ) ?_
    refine pwp_seq <| pwp_seq <| kx [(27, (vb (kn.getD i false)))] [] (zR (oL1 sh101) <| zM <| zE (oXo el101 i) <| zR (oLp sh4 i (false : Bool)) <| zZ) ?_
    refine pwp_cond (b := (kn.getD i false)) rfl (fun h2 => ?_) (fun h2 => ?_)
    · refine pwp_exit <| kx [(21, (vin (i + 1)))] [] (zE (oAd (i + 1)) <| zM <| zZ) ?_
      exact ⟨(i + 1, kn, ou), wk, ⟨by omega, ha.skip h2⟩, (by first | omega | (dsimp only; omega))⟩
    · have hpr := ha.pre heo (i := i) (by omega) h2
      refine pwp_skip <| pwp_seq <| kd [] [(1, some (bxs encQuat (ou.set i q1)))] mo (wR (oL1 sh34) <| wM <| wE (oCl l_one) <| wE (oXO el34 i) <| wT (oSA sh28 i q1) <| wZ) ?_
      refine pwp_seq <| kf [(11, (vin ((flw es (treL n es) n i kn (ou.set i q1)).1)))] [(0, some (bx (.sl 56 6 (List.map encEdge es)))), (1, some (bxs encQuat ((flw es (treL n es) n i kn (ou.set i q1)).2.2))), (2, some [(.own 1 28 4 n)]), (3, some (bm enc_bool ((flw es (treL n es) n i kn (ou.set i q1)).2.1))), (4, some [(.own 3 4 1 n)]), (5, some y1), (6, some [(.clo 101 [4, 5, 0, 2, 6])])] (zR (oL1 sh145) <| zM <| zS (B2 := [(4, some [(.own 3 4 1 n)]), (3, some (bm enc_bool kn)), (5, some y1), (0, some (bx (.sl 56 6 (List.map encEdge es)))), (2, some [(.own 1 28 4 n)]), (1, some (bxs encQuat (ou.set i q1))), (6, some [(.clo 101 [4, 5, 0, 2, 6])])]) (B2' := [(4, some [(.own 3 4 1 n)]), (3, some (bm enc_bool ((flw es (treL n es) n i kn (ou.set i q1)).2.1))), (5, some y1), (0, some (bx (.sl 56 6 (List.map encEdge es)))), (2, some [(.own 1 28 4 n)]), (1, some (bxs encQuat ((flw es (treL n es) n i kn (ou.set i q1)).2.2))), (6, some [(.clo 101 [4, 5, 0, 2, 6])])]) (M := 1000000) [4, 3, 5, 0, 2, 1, 6] [4, 5, 0, 2, 6] (e_flw i kn es (ou.set i q1) n n heo hn hl2 hpr) (.cons (by exact rfl) (by kernel_rfl) (.cons (by exact rfl) (ren_map _ _ _) (.cons (by exact rfl) (ren_dat _ _) (.cons (by exact rfl) (ren_dat _ _) (.cons (by exact rfl) (by kernel_rfl) (.cons (by exact rfl) (ren_dat _ _) (.cons (by exact rfl) (by kernel_rfl) .nil))))))) (.cons (by exact rfl) (by kernel_rfl) (.cons (by exact rfl) (ren_map _ _ _) (.cons (by exact rfl) (ren_dat _ _) (.cons (by exact rfl) (ren_dat _ _) (.cons (by exact rfl) (by kernel_rfl) (.cons (by exact rfl) (ren_dat _ _) (.cons (by exact rfl) (by kernel_rfl) .nil))))))) (by repeat first | exact .nil | refine .hid rfl ?_ | refine .map rfl ?_ | refine .dat rfl ?_ | refine .none rfl ?_ | refine .cells rfl rfl ?_) (ex := [.ref 4 0, .ref 5 0, .ref 0 0, .ref 2 0, .ref 6 0]) (hy := .clo (kk := [4, 5, 0, 2, 6]) (by kernel_rfl) (by kernel_rfl)) <| zM <| zF) ?_
      refine pwp_seq <| kx [(36, (vb ((((flw es (treL n es) n i kn (ou.set i q1)).1 : Nat) : Int) != ((0 : Nat) : Int))))] [] (zM <| zE oNe <| zZ) ?_
      refine pwp_cond rfl (fun h3 => ?_) (fun h3 => ?_)
      · replace h3 := bne_iff_ne.1 h3
        refine pwp_seq <| kx [(4, (vl 28 4 encQuat [])), (5, (vin ((flw es (treL n es) n i kn (ou.set i q1)).1)))] [] (zM <| zE (oNl 28 4) <| zM <| zZ) ?_
        refine pwp_ret ⟨_, (.tmp (d := (.sl 28 4 (List.map encQuat []))) rfl (.tmp (d := (.val (.int .i64 ((((flw es (treL n es) n i kn (ou.set i q1)).1 : Nat) : Int))))) rfl .nil)), ?_⟩
        obtain ⟨q1, q2, q3⟩ := (flw_ok heo n _ _ _ hpr).2 (show (flw es (treL n es) n i kn (ou.set i q1)).1 ≠ 0 by omega)
        rw [q1, q2]; show _ = _; rw [q3]; rfl
      · replace h3 := bne_eq_false_iff_eq.1 h3
        refine pwp_skip <| kx [(21, (vin (i + 1)))] [] (zE (oAd (i + 1)) <| zM <| zZ) ?_
        exact ⟨(i + 1, (flw es (treL n es) n i kn (ou.set i q1)).2.1, (flw es (treL n es) n i kn (ou.set i q1)).2.2), wk, ⟨by omega, ha.next ((flw_ok heo n _ _ _ hpr).1 (show (flw es (treL n es) n i kn (ou.set i q1)).1 = 0 by omega))⟩, (by first | omega | (dsimp only; omega))⟩
  · replace h1 := of_decide_eq_false h1
    refine pwp_exit <| pwp_seq <| pwp_sim (publishB (j := 2) (k := 1) (es := List.map encQuat ou) rfl rfl rfl (pubs_cells _ _ (fun _ => rfl)) (map_len _ _ hol) (pubs_take encQuat ou (fun _ => rfl) hol)) ?_
    refine kx [(4, (vl 28 4 encQuat ou)), (5, (vin 0))] [] (zR (oL1 sh34) <| zM <| zM <| zZ) ?_
    refine pwp_ret ⟨_, (.tmp (d := (.sl 28 4 (List.map encQuat ou))) rfl (.tmp (d := (.val (.int .i64 (((0 : Nat) : Int))))) rfl .nil)), ?_⟩
    obtain ⟨q1, q2⟩ := ha.end_ heo (by omega)
    rw [← q1, q2]; rfl
end Go.Proofs.YtihgdjljnaekmaaGreat
set_option linter.unusedVariables false
set_option linter.unusedSimpArgs false
namespace Go.Fid
section
variable {P : Program}
def eqaB (P : Program) (T : TypeId) : Option Nat :=
  match P.underlying T with
  | some (.array n E) => (match P.underlying E, P.info? E with
    | some (.int _), some i => if Nat.beq i.size 1 && !P.eqGuardType P.depth T then some n else none
    | _, _ => none)
  | _ => none
theorem run_as (k : IntKind) {E : TypeId} {j : IntKind} (hE : P.underlying E = some (.int j)) (d : Nat) (w : World) (ms ns : List Int) : ∀ (m i : Nat), ms.length = i + m → ns.length = i + m →
    Sem.run P (forIn (List.range' i m) ((none, ()) : Option Bool × Unit) fun f _ => do
              let a ← part E (List.map (Value.int k) ms).toArray f
              let b ← part E (List.map (Value.int k) ns).toArray f
              let c ← Op.equalIn (d + 1) E a b
              if c = false then pure (ForInStep.done (some false, ())) else pure (ForInStep.yield (none, ()))) w = .ok (if ms.drop i = ns.drop i then (none, ()) else (some false, ())) w
  | 0, i, h1, h2 => by
    have e1 : ms.drop i = [] := List.drop_eq_nil_of_le (by omega)
    have e2 : ns.drop i = [] := List.drop_eq_nil_of_le (by omega)
    rw [e1, e2]; simp
  | m + 1, i, h1, h2 => by
    have b1 : i < ms.length := by omega
    have b2 : i < ns.length := by omega
    have ih := run_as k hE d w ms ns m (i + 1) (by omega) (by omega)
    have e1 := List.drop_eq_getElem_cons b1
    have e2 := List.drop_eq_getElem_cons b2
    simp only [List.range'_succ, List.forIn_cons, Sem.run_bind, run_part_int hE (List.getElem?_eq_getElem b1), run_part_int hE (List.getElem?_eq_getElem b2), Result.andThen_ok, run_eqInt hE]
    by_cases he : ms[i] = ns[i]
    · have hx : (ms.drop i = ns.drop i) = (ms.drop (i + 1) = ns.drop (i + 1)) := by
        rw [e1, e2, he]
        exact propext ⟨fun h => (List.cons.inj h).2, fun h => by rw [h]⟩
      simp only [he, beq_self_eq_true, Bool.true_eq_false, if_false, Sem.run_pure, Result.andThen_ok]
      rw [ih]
      simp only [hx]
    · have hx : ¬ ms.drop i = ns.drop i := by
        rw [e1, e2]
        exact fun h => he (List.cons.inj h).1
      have hb : (ms[i] == ns[i]) = false := by simp [he]
      simp only [hb, if_true, Sem.run_pure, Result.andThen_ok, if_neg hx]
theorem run_eqA {T : TypeId} {c : Nat} (h : eqaB P T = some c) (k : IntKind) (ms ns : List Int) (h1 : ms.length = c) (h2 : ns.length = c) (w : World) :
    (Op.equal T (.agg (ms.map (Value.int k)).toArray) (.agg (ns.map (Value.int k)).toArray)).run P w = .ok (decide (ms = ns)) w ∧ P.eqGuardType P.depth T = false := by
  unfold eqaB at h
  split at h
  · rename_i n E hT
    split at h
    · rename_i j i hE hi
      split at h
      · rename_i hq
        simp only [Bool.and_eq_true, Bool.not_eq_true'] at hq
        injection h with h
        have hsz : i.size = 1 := Nat.eq_of_beq_eq_true hq.1
        refine ⟨?_, hq.2⟩
        show (Op.equalIn (9998 + 2) T _ _).run P w = _
        rw [Op.equalIn]
        have hl := run_as k hE 9998 w ms ns n 0 (by omega) (by omega)
        simp only [List.drop_zero] at hl
        simp [run_underlying hT, run_sizeOf hi, hsz]
        rw [hl]
        by_cases e : ms = ns
        · simp [e]
        · simp [e]
      · cases h
    · cases h
  · cases h
section
variable {o : Oper} {S : Nat → SV} {T T' : TypeId} {x y : Operand} {c : Nat}
theorem oNA (hT : eqaB P T = some c) (k : IntKind) (ms ns : List Int) (ho : o.op = .binOp .neq T x y T' := by exact rfl) (hx : ev S x = .d (.agg (ms.map fun m => .val (.int k m))) := by exact rfl) (hy : ev S y = .d (.agg (ns.map fun m => .val (.int k m))) := by exact rfl) (h1 : ms.length = c := by exact rfl) (h2 : ns.length = c := by exact rfl) : EOk P o S [] (.d (.val (.bool (!(decide (ms = ns)))))) :=
  EOk.same fun a w D β hop _ => by
    have hx' := hop x (by simp [ho, Op.operands])
    have hy' := hop y (by simp [ho, Op.operands])
    rw [hx] at hx'
    rw [hy] at hy'
    have ex := rep_ints hx'
    have ey := rep_ints hy'
    obtain ⟨g1, g2⟩ := run_eqA hT k ms ns h1 h2 w
    refine ⟨.bool (!(decide (ms = ns))), ?_, .val _⟩
    simp [execOp, ho, ex, ey, eqGuard, g2, binOp, g1]
end
end
end Go.Fid
namespace Go.Proofs.YtihgdjljnaekmaaGreat
open Go.Fid
set_option maxRecDepth 4000
set_option linter.unusedVariables false
set_option linter.unusedSimpArgs false
theorem cb23 : callB Tryz.prog 23 = true := by kernel_rfl
theorem cb24 : callB Tryz.prog 24 = true := by kernel_rfl
theorem cb28 : callB Tryz.prog 28 = true := by kernel_rfl
theorem cb43 : callB Tryz.prog 43 = true := by kernel_rfl
theorem cb44 : callB Tryz.prog 44 = true := by kernel_rfl
theorem cb58 : callB Tryz.prog 58 = true := by kernel_rfl
theorem eqa70 : eqaB Tryz.prog 70 = some 3 := by kernel_rfl
theorem sh70 : shapeB Tryz.prog 70 = some (true, 3) := by kernel_rfl
theorem l_Tree (z : Int) (es : List REdge) (hb : es.length ≤ 1000000) : Takes Tryz.prog 23 [(.val (.int .i64 (z))), (.sl 56 6 (List.map encEdge es))] (.tup [(.sl 3 1 (List.map enc_i64 (okL (lopC z es) (treL (Int.toNat z) es)))), (.val (.int .i64 ((((lopC z es) : Nat) : Int))))]) := by
  refine fn_intro Tryz.func23 rfl cb23 rfl ?_
  show PWp _ _ _ _ ⟨[(0, (vi z)), (1, (vl 56 6 encEdge es))], []⟩
  refine pwp_seq <| kx [] [] (zE (oNl 3 1) <| zM <| zZ) ?_
  refine pwp_seq <| pwp_seq <| kx [(6, (vin (lopC z es)))] [] (zM <| zM <| zE (oCl (l_check z es hb)) <| zM <| zZ) ?_
  refine pwp_seq <| kx [(11, (vb ((((lopC z es) : Nat) : Int) != 0)))] [] (zM <| zE oNe <| zZ) ?_
  refine pwp_cond (b := ((((lopC z es) : Nat) : Int) != 0)) rfl (fun h1 => ?_) (fun h1 => ?_)
  · replace h1 := bne_iff_ne.1 h1
    refine pwp_seq <| kx [(4, (vl 3 1 enc_i64 [])), (5, (vin (lopC z es)))] [] (zM <| zE (oNl 3 1) <| zM <| zZ) ?_
    refine pwp_ret ⟨_, (.tmp (d := (.sl 3 1 (List.map enc_i64 []))) rfl (.tmp (d := (.val (.int .i64 ((((lopC z es) : Nat) : Int))))) rfl .nil)), ?_⟩
    rw [okL_n (rot_ne h1)]; rfl
  · replace h1 := bne_eq_false_iff_eq.1 h1
    have hc0 : lopC z es = 0 := by omega
    obtain ⟨hz1, hz2, hl2, heo⟩ := lopC_0 hc0
    refine pwp_skip <| pwp_seq <| kx [(4, (vl 3 1 enc_i64 (treL z.toNat es))), (5, (vin 0))] [] (zE (oQd (.val (.int .i64 (z))) (.val (.int .i64 (((z.toNat : Nat) : Int)))) (oV (vi z) (mv_ok (by kernel_rfl))) (by exact (congrArg (fun z => Dat.val (.int .i64 z)) (by omega)))) <| zM <| zE (oCl (l_tree z.toNat es heo (by omega) hl2)) <| zM <| zM <| zZ) ?_
    refine pwp_ret ⟨_, (.tmp (d := (.sl 3 1 (List.map enc_i64 (treL z.toNat es)))) rfl (.tmp (d := (.val (.int .i64 (0)))) rfl .nil)), ?_⟩
    rw [okL_0 hc0, hc0]; rfl
theorem l_Tris (z : Int) (es : List REdge) (hb : es.length ≤ 1000000) : Takes Tryz.prog 24 [(.val (.int .i64 (z))), (.sl 56 6 (List.map encEdge es))] (.tup [(.sl 70 3 (List.map encA70 (List.map t3 (okL (lopC z es) (tris es))))), (.val (.int .i64 ((((lopC z es) : Nat) : Int))))]) := by
  refine fn_intro Tryz.func24 rfl cb24 rfl ?_
  show PWp _ _ _ _ ⟨[(0, (vi z)), (1, (vl 56 6 encEdge es))], []⟩
  refine pwp_seq <| kx [] [] (zE (oNl 70 3) <| zM <| zZ) ?_
  refine pwp_seq <| pwp_seq <| kx [(6, (vin (lopC z es)))] [] (zM <| zM <| zE (oCl (l_check z es hb)) <| zM <| zZ) ?_
  refine pwp_seq <| kx [(13, (vb ((((lopC z es) : Nat) : Int) != 0)))] [] (zM <| zE oNe <| zZ) ?_
  refine pwp_cond (b := ((((lopC z es) : Nat) : Int) != 0)) rfl (fun h1 => ?_) (fun h1 => ?_)
  · replace h1 := bne_iff_ne.1 h1
    refine pwp_seq <| kx [(4, (vl 70 3 encA70 [])), (5, (vin (lopC z es)))] [] (zM <| zE (oNl 70 3) <| zM <| zZ) ?_
    refine pwp_ret ⟨_, (.tmp (d := (.sl 70 3 (List.map encA70 []))) rfl (.tmp (d := (.val (.int .i64 ((((lopC z es) : Nat) : Int))))) rfl .nil)), ?_⟩
    rw [okL_n (rot_ne h1)]; rfl
  · replace h1 := bne_eq_false_iff_eq.1 h1
    have hc0 : lopC z es = 0 := by omega
    obtain ⟨hz1, hz2, hl2, heo⟩ := lopC_0 hc0
    refine pwp_skip <| pwp_seq <| kx [(7, (vl 70 3 encA70 (List.map t3 (tris es))))] [] (zM <| zE (oCl (l_tris es z.toNat heo (by omega) hl2)) <| zM <| zE oEx <| zE oEx <| zM <| zM <| zZ) ?_
    refine pwp_seq <| kx [(4, (vl 70 3 encA70 (List.map t3 (tris es)))), (5, (vin 0))] [] (zM <| zM <| zM <| zZ) ?_
    refine pwp_ret ⟨_, (.tmp (d := (.sl 70 3 (List.map encA70 (List.map t3 (tris es))))) rfl (.tmp (d := (.val (.int .i64 (0)))) rfl .nil)), ?_⟩
    rw [okL_0 hc0, hc0]; rfl
theorem l_Abs (z : Int) (es : List REdge) (hb : es.length ≤ 1000000) : Takes Tryz.prog 43 [(.val (.int .i64 (z))), (.sl 56 6 (List.map encEdge es))] (.tup [(.sl 28 4 (List.map encQuat (okL (lopC z es) (absL (Int.toNat z) es)))), (.val (.int .i64 ((((okC (lopC z es) (absC (Int.toNat z) es)) : Nat) : Int))))]) := by
  refine fn_intro Tryz.func43 rfl cb43 rfl ?_
  show PWp _ _ _ _ ⟨[(0, (vi z)), (1, (vl 56 6 encEdge es))], []⟩
  refine pwp_seq <| kx [] [] (zE (oNl 28 4) <| zM <| zZ) ?_
  refine pwp_seq <| pwp_seq <| kx [(6, (vin (lopC z es)))] [] (zM <| zM <| zE (oCl (l_check z es hb)) <| zM <| zZ) ?_
  refine pwp_seq <| kx [(11, (vb ((((lopC z es) : Nat) : Int) != 0)))] [] (zM <| zE oNe <| zZ) ?_
  refine pwp_cond (b := ((((lopC z es) : Nat) : Int) != 0)) rfl (fun h1 => ?_) (fun h1 => ?_)
  · replace h1 := bne_iff_ne.1 h1
    refine pwp_seq <| kx [(4, (vl 28 4 encQuat [])), (5, (vin (lopC z es)))] [] (zM <| zE (oNl 28 4) <| zM <| zZ) ?_
    refine pwp_ret ⟨_, (.tmp (d := (.sl 28 4 (List.map encQuat []))) rfl (.tmp (d := (.val (.int .i64 ((((lopC z es) : Nat) : Int))))) rfl .nil)), ?_⟩
    rw [okL_n (rot_ne h1), okC_n (rot_ne h1)]; rfl
  · replace h1 := bne_eq_false_iff_eq.1 h1
    have hc0 : lopC z es = 0 := by omega
    obtain ⟨hz1, hz2, hl2, heo⟩ := lopC_0 hc0
    refine pwp_skip <| pwp_seq <| kx [(4, (vl 28 4 encQuat (absL z.toNat es))), (5, (vin (absC z.toNat es)))] [] (zE (oQd (.val (.int .i64 (z))) (.val (.int .i64 (((z.toNat : Nat) : Int)))) (oV (vi z) (mv_ok (by kernel_rfl))) (by exact (congrArg (fun z => Dat.val (.int .i64 z)) (by omega)))) <| zM <| zE (oCl (l_abs z.toNat es heo (by omega) hl2)) <| zE oEx <| zE oEx <| zM <| zM <| zZ) ?_
    refine pwp_ret ⟨_, (.tmp (d := (.sl 28 4 (List.map encQuat (absL z.toNat es)))) rfl (.tmp (d := (.val (.int .i64 ((((absC z.toNat es) : Nat) : Int))))) rfl .nil)), ?_⟩
    rw [okL_0 hc0, okC_0 hc0]; rfl
theorem l_btw (p : RQuat) (q : RQuat) (hp : Qok p) (hq : Qok q) : Takes Tryz.prog 58 [(encQuat p), (encQuat q)] (.tup [(encQuat (qV (qmul (qV (qcj q)) p))), (.val (.int .i64 ((((qC (qmul (qV (qcj q)) p)) : Nat) : Int))))]) := by
  refine fn_intro Tryz.func58 rfl cb58 rfl ?_
  show PWp _ _ _ _ ⟨[(0, (.d (encQuat p))), (1, (.d (encQuat q)))], []⟩
  refine pwp_seq <| kx [(2, (.ref 0 0)), (3, (.ref 1 0)), (4, (.ref 2 0))] [(0, some (bx (encQuat p))), (1, some (bx (encQuat q))), (2, some (bx (encQuat (RQuat.mk 0 0 0 0))))] (zN (oBx 0) <| zN (oBx 1) <| zN (oAl 2 ze28 zo28) <| zM <| zZ) ?_
  refine pwp_seq <| kx [(6, (.ref 3 0)), (7, (vin (qC (qcj q))))] [(3, some (bx (encQuat (qV (qcj q)))))] (zR (oLa sh28) <| zE (oCl (l_conj q hq)) <| zM <| zE oEx <| zE oEx <| zN (oAl 3 ze28 zo28) <| zT (oSt sh28) <| zM <| zZ) ?_
  refine pwp_seq <| pwp_seq <| kx [(14, (vb false))] [] (zM <| zE (oBk false oNe (by exact bne_eq_false_iff_eq.2 (by rw [show (qC (qcj q)) = 0 from (qC_cj hq)]; rfl))) <| zZ) ?_
  refine pwp_cond (b := false) (by kernel_rfl) (fun h => by cases h) (fun _ => ?_)
  refine pwp_skip <| pwp_seq <| kx [(5, (vin (qC (qmul (qV (qcj q)) p))))] [(2, some (bx (encQuat (qV (qmul (qV (qcj q)) p)))))] (zR (oLa sh28) <| zR (oLa sh28) <| zE (oCl (l_mul (qV (qcj q)) p (qV_ok (qcj_nz hq.1) (qC_cj hq)) hp)) <| zE oEx <| zE oEx <| zT (oSt sh28) <| zM <| zZ) ?_
  refine pwp_ret ⟨_, (res_a (cs := (bx (encQuat (qV (qmul (qV (qcj q)) p))))) (d := (encQuat (qV (qmul (qV (qcj q)) p)))) rfl rfl sh28 rfl rfl (.tmp (d := (.val (.int .i64 ((((qC (qmul (qV (qcj q)) p)) : Nat) : Int))))) rfl .nil)), ?_⟩
  rfl
theorem l_eqT (l : List (A3 (Int))) (m : List (A3 (Int))) (hb : l.length ≤ 1000000) (hlm : l = m) : Takes Tryz.prog 28 [(.sl 70 3 (List.map encA70 l)), (.sl 70 3 (List.map encA70 m))] (.val (.bool (true))) := by
  refine fn_intro Tryz.func28 rfl cb28 rfl ?_
  show PWp _ _ _ _ ⟨[(0, (vl 70 3 encA70 l)), (1, (vl 70 3 encA70 m))], []⟩
  refine pwp_seq <| kx [] [] (zM <| zZ) ?_
  refine pwp_seq <| pwp_seq <| kx [(10, (vb (((l.length : Nat) : Int) != ((m.length : Nat) : Int))))] [] (zM <| zE (oLm el63) <| zM <| zE (oLm el63) <| zE oNe <| zZ) ?_
  refine pwp_cond rfl (fun h1 => ?_) (fun h1 => ?_)
  · replace h1 := bne_iff_ne.1 h1
    exfalso; subst hlm; exact h1 rfl
  · replace h1 := bne_eq_false_iff_eq.1 h1
    have hll : m.length = l.length := by rw [hlm]
    refine pwp_skip <| pwp_seq <| pwp_seq <| kx [(12, (vin l.length)), (13, (vin 0))] [] (zM <| zE (oLm el63) <| zM <| zZ) ?_
    refine pwp_block <| pwp_loop (α := Nat) (fun k => ⟨[(0, (vl 70 3 encA70 l)), (1, (vl 70 3 encA70 m)), (12, (vin l.length)), (13, (vin k))], []⟩) (fun k => k ≤ l.length) (fun k => l.length - k) 0 wk (Nat.zero_le _) ?_
    rintro k hk
    refine pwp_seq <| kx [(14, (vb (decide (((k : Nat) : Int) < ((l.length : Nat) : Int)))))] [] (zE oLt <| zZ) ?_
    refine pwp_seq <| pwp_cond rfl (fun h2 => ?_) (fun h2 => ?_)
    · replace h2 := of_decide_eq_true h2
      refine pwp_skip <| pwp_seq <| pwp_block <| pwp_seq <| kx [(5, (vin k))] [] (zM <| zM <| zZ) ?_
      refine pwp_seq <| kd [(24, (vb (!(decide ([(l.getD k (A3.mk 0 0 0)).a0, (l.getD k (A3.mk 0 0 0)).a1, (l.getD k (A3.mk 0 0 0)).a2] = [(m.getD k (A3.mk 0 0 0)).a0, (m.getD k (A3.mk 0 0 0)).a1, (m.getD k (A3.mk 0 0 0)).a2])))))] [] mo (wM <| wM <| wE (oXl el63 k ((A3.mk 0 0 0) : A3 (Int))) <| wE (oCa sh70) <| wM <| wM <| wE (oXl el63 k ((A3.mk 0 0 0) : A3 (Int))) <| wE (oCa sh70) <| wE (oNA eqa70 .i64 [(l.getD k (A3.mk 0 0 0)).a0, (l.getD k (A3.mk 0 0 0)).a1, (l.getD k (A3.mk 0 0 0)).a2] [(m.getD k (A3.mk 0 0 0)).a0, (m.getD k (A3.mk 0 0 0)).a1, (m.getD k (A3.mk 0 0 0)).a2]) <| wZ) ?_
      refine pwp_cond rfl (fun h3 => ?_) (fun h3 => ?_)
      · exfalso; subst hlm; simp at h3
      · refine pwp_skip <| kx [(13, (vin (k + 1)))] [] (zE (oAd (k + 1)) <| zM <| zZ) ?_
        exact ⟨(k + 1), wk, (by omega), (by omega)⟩
    · replace h2 := of_decide_eq_false h2
      refine pwp_exit <| pwp_seq <| kx [(4, (vb true))] [] (zM <| zZ) ?_
      refine pwp_ret ⟨_, (.tmp (d := (.val (.bool (true)))) rfl .nil), ?_⟩
      rfl
theorem l_eqQ (l : List RQuat) (m : List RQuat) (hb : l.length ≤ 1000000) (hlm : l = m) : Takes Tryz.prog 44 [(.sl 28 4 (List.map encQuat l)), (.sl 28 4 (List.map encQuat m))] (.val (.bool (true))) := by
  refine fn_intro Tryz.func44 rfl cb44 rfl ?_
  show PWp _ _ _ _ ⟨[(0, (vl 28 4 encQuat l)), (1, (vl 28 4 encQuat m))], []⟩
  refine pwp_seq <| kx [] [] (zM <| zZ) ?_
  refine pwp_seq <| pwp_seq <| kx [(10, (vb (((l.length : Nat) : Int) != ((m.length : Nat) : Int))))] [] (zM <| zE (oLm el34) <| zM <| zE (oLm el34) <| zE oNe <| zZ) ?_
  refine pwp_cond rfl (fun h1 => ?_) (fun h1 => ?_)
  · replace h1 := bne_iff_ne.1 h1
    exfalso; subst hlm; exact h1 rfl
  · replace h1 := bne_eq_false_iff_eq.1 h1
    have hll : m.length = l.length := by rw [hlm]
    refine pwp_skip <| pwp_seq <| pwp_seq <| kx [(12, (vin l.length)), (13, (vin 0))] [] (zM <| zE (oLm el34) <| zM <| zZ) ?_
    refine pwp_block <| pwp_loop (α := Nat) (fun k => ⟨[(0, (vl 28 4 encQuat l)), (1, (vl 28 4 encQuat m)), (12, (vin l.length)), (13, (vin k))], []⟩) (fun k => k ≤ l.length) (fun k => l.length - k) 0 wk (Nat.zero_le _) ?_
    rintro k hk
    refine pwp_seq <| kx [(14, (vb (decide (((k : Nat) : Int) < ((l.length : Nat) : Int)))))] [] (zE oLt <| zZ) ?_
    refine pwp_seq <| pwp_cond rfl (fun h2 => ?_) (fun h2 => ?_)
    · replace h2 := of_decide_eq_true h2
      refine pwp_skip <| pwp_seq <| pwp_block <| pwp_seq <| kx [(5, (vin k))] [] (zM <| zM <| zZ) ?_
      refine pwp_seq <| kd [(24, (vb (!(decide ([(l.getD k (RQuat.mk 0 0 0 0)).a, (l.getD k (RQuat.mk 0 0 0 0)).b, (l.getD k (RQuat.mk 0 0 0 0)).c, (l.getD k (RQuat.mk 0 0 0 0)).d] = [(m.getD k (RQuat.mk 0 0 0 0)).a, (m.getD k (RQuat.mk 0 0 0 0)).b, (m.getD k (RQuat.mk 0 0 0 0)).c, (m.getD k (RQuat.mk 0 0 0 0)).d])))))] [] mo (wM <| wM <| wE (oXl el34 k (RQuat.mk 0 0 0 0)) <| wE (oCa sh28) <| wM <| wM <| wE (oXl el34 k (RQuat.mk 0 0 0 0)) <| wE (oCa sh28) <| wE (oNs eqs28 .i64 [(l.getD k (RQuat.mk 0 0 0 0)).a, (l.getD k (RQuat.mk 0 0 0 0)).b, (l.getD k (RQuat.mk 0 0 0 0)).c, (l.getD k (RQuat.mk 0 0 0 0)).d] [(m.getD k (RQuat.mk 0 0 0 0)).a, (m.getD k (RQuat.mk 0 0 0 0)).b, (m.getD k (RQuat.mk 0 0 0 0)).c, (m.getD k (RQuat.mk 0 0 0 0)).d]) <| wZ) ?_
      refine pwp_cond rfl (fun h3 => ?_) (fun h3 => ?_)
      · exfalso; subst hlm; simp at h3
      · refine pwp_skip <| kx [(13, (vin (k + 1)))] [] (zE (oAd (k + 1)) <| zM <| zZ) ?_
        exact ⟨(k + 1), wk, (by omega), (by omega)⟩
    · replace h2 := of_decide_eq_false h2
      refine pwp_exit <| pwp_seq <| kx [(4, (vb true))] [] (zM <| zZ) ?_
      refine pwp_ret ⟨_, (.tmp (d := (.val (.bool (true)))) rfl .nil), ?_⟩
      rfl
end Go.Proofs.YtihgdjljnaekmaaGreat
namespace Go.Proofs.YtihgdjljnaekmaaGreat
open Go.Fid
set_option maxRecDepth 4000
set_option linter.unusedVariables false
set_option linter.unusedSimpArgs false
theorem cb16 : callB Tryz.prog 16 = true := by kernel_rfl
theorem l_Con (z : Int) (es : List REdge) (hb : es.length ≤ 1000000) : Takes Tryz.prog 16 [(.val (.int .i64 (z))), (.sl 56 6 (List.map encEdge es))] (.tup [(.val (.bool ((conV z es)))), (.val (.int .i64 ((((conC z es) : Nat) : Int))))]) := by
  refine fn_intro Tryz.func16 rfl cb16 rfl ?_
  show PWp _ _ _ _ ⟨[(0, (vi z)), (1, (vl 56 6 encEdge es))], []⟩
  refine pwp_seq <| kx [] [] (zM <| zM <| zZ) ?_
  refine pwp_seq <| pwp_seq <| kx [(6, (vin (lopC z es)))] [] (zM <| zM <| zE (oCl (l_check z es hb)) <| zM <| zZ) ?_
  refine pwp_seq <| kx [(18, (vb ((((lopC z es) : Nat) : Int) != 0)))] [] (zM <| zE oNe <| zZ) ?_
  refine pwp_cond (b := ((((lopC z es) : Nat) : Int) != 0)) rfl (fun h1 => ?_) (fun h1 => ?_)
  · replace h1 := bne_iff_ne.1 h1
    refine pwp_seq <| kx [(4, (vb false)), (5, (vin (lopC z es)))] [] (zM <| zM <| zM <| zZ) ?_
    refine pwp_ret ⟨_, (.tmp (d := (.val (.bool (false)))) rfl (.tmp (d := (.val (.int .i64 ((((lopC z es) : Nat) : Int))))) rfl .nil)), ?_⟩
    obtain ⟨q1, q2⟩ := con_n (rot_ne h1)
    rw [q1, q2]; rfl
  · replace h1 := bne_eq_false_iff_eq.1 h1
    have hc0 : lopC z es = 0 := by omega
    obtain ⟨hz1, hz2, hl2, heo⟩ := lopC_0 hc0
    refine pwp_skip <| pwp_seq <| kx [(7, (vl 28 4 encQuat (absL z.toNat es))), (8, (vin (absC z.toNat es)))] [] (zE (oQd (.val (.int .i64 (z))) (.val (.int .i64 (((z.toNat : Nat) : Int)))) (oV (vi z) (mv_ok (by kernel_rfl))) (by exact (congrArg (fun z => Dat.val (.int .i64 z)) (by omega)))) <| zM <| zE (oCl (l_abs z.toNat es heo (by omega) hl2)) <| zM <| zE oEx <| zE oEx <| zM <| zM <| zZ) ?_
    refine pwp_seq <| pwp_seq <| kx [(27, (vb ((((absC z.toNat es) : Nat) : Int) != 0)))] [] (zM <| zE oNe <| zZ) ?_
    refine pwp_cond (b := ((((absC z.toNat es) : Nat) : Int) != 0)) rfl (fun h2 => ?_) (fun h2 => ?_)
    · replace h2 := bne_iff_ne.1 h2
      refine pwp_seq <| kx [(4, (vb false)), (5, (vin (absC z.toNat es)))] [] (zM <| zM <| zM <| zZ) ?_
      refine pwp_ret ⟨_, (.tmp (d := (.val (.bool (false)))) rfl (.tmp (d := (.val (.int .i64 ((((absC z.toNat es) : Nat) : Int))))) rfl .nil)), ?_⟩
      obtain ⟨q1, q2⟩ := con_0 hc0
      obtain ⟨q3, q4⟩ := cn_1 (rot_ne h2)
      rw [q1, q2, q3, q4]; rfl
    · replace h2 := bne_eq_false_iff_eq.1 h2
      have hts := abs_ok heo (show absC z.toNat es = 0 by omega)
      refine pwp_skip <| pwp_seq <| kx [(9, (vb true))] [] (zM <| zZ) ?_
      refine pwp_seq <| pwp_seq <| kx [(29, (vl 56 6 encEdge es)), (30, (vin es.length)), (31, (vin 0))] [] (zM <| zE (oLm el39) <| zM <| zZ) ?_
      refine pwp_block <| pwp_loop (α := Nat × Bool) (fun (k, al) => ⟨[(7, (vl 28 4 encQuat (absL z.toNat es))), (9, (vb al)), (29, (vl 56 6 encEdge es)), (30, (vin es.length)), (31, (vin k))], []⟩) (fun (k, al) => k ≤ es.length ∧ erUp es (absL z.toNat es) k ∧ al = alS (es.take k) (absL z.toNat es)) (fun (k, al) => es.length - k) (0, true) wk ⟨Nat.zero_le _, erUp_0 _ _, rfl⟩ ?_
      rintro ⟨k, al⟩ ⟨hk, hv, ha⟩
      refine pwp_seq <| kx [(32, (vb (decide (((k : Nat) : Int) < ((es.length : Nat) : Int)))))] [] (zE oLt <| zZ) ?_
      refine pwp_seq <| pwp_cond rfl (fun h3 => ?_) (fun h3 => ?_)
      · replace h3 := of_decide_eq_true h3
        have hek : EOkE z.toNat (es.getD k (REdge.mk 0 0 (RQuat.mk 0 0 0 0))) := eget heo (k := k) (by omega)
        obtain ⟨hek1, hek2, hek3, hek4, hek5, hek6⟩ := id hek
        have htT := hts.at (j := (es.getD k (REdge.mk 0 0 (RQuat.mk 0 0 0 0))).to_.toNat) (by omega)
        have htF := hts.at (j := (es.getD k (REdge.mk 0 0 (RQuat.mk 0 0 0 0))).fr.toNat) (by omega)
        have htl := hts.1
        refine pwp_skip <| pwp_seq <| pwp_block <| pwp_seq <| kx [(11, (.ref 0 0))] [(0, some (bx (encEdge (es.getD k (REdge.mk 0 0 (RQuat.mk 0 0 0 0))))))] (zE (oXl el39 k (REdge.mk 0 0 (RQuat.mk 0 0 0 0))) <| zE (oCa sh56) <| zN (oAl 0 ze56 zo56) <| zT (oSt sh56) <| zZ) ?_
        refine pwp_seq <| kd [(12, (.ref 1 0)), (13, (vin (qC (qmul (qV (qcj ((absL z.toNat es).getD (((es.getD k (REdge.mk 0 0 (RQuat.mk 0 0 0 0))).to_).toNat) (RQuat.mk 0 0 0 0)))) ((absL z.toNat es).getD (((es.getD k (REdge.mk 0 0 (RQuat.mk 0 0 0 0))).fr).toNat) (RQuat.mk 0 0 0 0))))))] [(1, some (bx (encQuat (qV (qmul (qV (qcj ((absL z.toNat es).getD (((es.getD k (REdge.mk 0 0 (RQuat.mk 0 0 0 0))).to_).toNat) (RQuat.mk 0 0 0 0)))) ((absL z.toNat es).getD (((es.getD k (REdge.mk 0 0 (RQuat.mk 0 0 0 0))).fr).toNat) (RQuat.mk 0 0 0 0)))))))] mo (wM <| wE (oFr fo56_0) <| wR (oL1 sh3) <| wE (oXl el34 (((es.getD k (REdge.mk 0 0 (RQuat.mk 0 0 0 0))).fr).toNat) (RQuat.mk 0 0 0 0) (L := (absL z.toNat es))) <| wE (oCa sh28) <| wM <| wE (oFr fo56_1) <| wR (oL1 sh3) <| wE (oXl el34 (((es.getD k (REdge.mk 0 0 (RQuat.mk 0 0 0 0))).to_).toNat) (RQuat.mk 0 0 0 0) (L := (absL z.toNat es))) <| wE (oCa sh28) <| wE (oCl (l_btw ((absL z.toNat es).getD (((es.getD k (REdge.mk 0 0 (RQuat.mk 0 0 0 0))).fr).toNat) (RQuat.mk 0 0 0 0)) ((absL z.toNat es).getD (((es.getD k (REdge.mk 0 0 (RQuat.mk 0 0 0 0))).to_).toNat) (RQuat.mk 0 0 0 0)) htF htT)) <| wM <| wE oEx <| wE oEx <| wN (oAl 1 ze28 zo28) <| wT (oSt sh28) <| wM <| wZ) ?_
        refine pwp_seq <| pwp_seq <| kx [(50, (vb ((((qC (qmul (qV (qcj ((absL z.toNat es).getD (((es.getD k (REdge.mk 0 0 (RQuat.mk 0 0 0 0))).to_).toNat) (RQuat.mk 0 0 0 0)))) ((absL z.toNat es).getD (((es.getD k (REdge.mk 0 0 (RQuat.mk 0 0 0 0))).fr).toNat) (RQuat.mk 0 0 0 0)))) : Nat) : Int) != 0)))] [] (zM <| zE oNe <| zZ) ?_
        refine pwp_cond rfl (fun h4 => ?_) (fun h4 => ?_)
        · replace h4 := bne_iff_ne.1 h4
          refine pwp_seq <| kx [(4, (vb false)), (5, (vin (qC (qmul (qV (qcj ((absL z.toNat es).getD (((es.getD k (REdge.mk 0 0 (RQuat.mk 0 0 0 0))).to_).toNat) (RQuat.mk 0 0 0 0)))) ((absL z.toNat es).getD (((es.getD k (REdge.mk 0 0 (RQuat.mk 0 0 0 0))).fr).toNat) (RQuat.mk 0 0 0 0))))))] [] (zM <| zM <| zM <| zZ) ?_
          refine pwp_ret ⟨_, (.tmp (d := (.val (.bool (false)))) rfl (.tmp (d := (.val (.int .i64 ((((qC (qmul (qV (qcj ((absL z.toNat es).getD (((es.getD k (REdge.mk 0 0 (RQuat.mk 0 0 0 0))).to_).toNat) (RQuat.mk 0 0 0 0)))) ((absL z.toNat es).getD (((es.getD k (REdge.mk 0 0 (RQuat.mk 0 0 0 0))).fr).toNat) (RQuat.mk 0 0 0 0)))) : Nat) : Int))))) rfl .nil)), ?_⟩
          obtain ⟨q1, q2⟩ := con_0 hc0
          obtain ⟨q5, q6, q7⟩ := er_no (es := es) (ts := (absL z.toNat es)) (k := k) (by omega) (rot_ne h4)
          obtain ⟨q3, q4⟩ := cn_2 (n := z.toNat) (es := es) (by omega) (by rw [q6]; decide)
          rw [q1, q2, q3, q4, q6, show qC (qmul (qV (qcj ((absL z.toNat es).getD (es.getD k (REdge.mk 0 0 (RQuat.mk 0 0 0 0))).to_.toNat (RQuat.mk 0 0 0 0)))) ((absL z.toNat es).getD (es.getD k (REdge.mk 0 0 (RQuat.mk 0 0 0 0))).fr.toNat (RQuat.mk 0 0 0 0))) = 3 from q7]; rfl
        · replace h4 := bne_eq_false_iff_eq.1 h4
          have hqb : Qok (qV (qmul (qV (qcj ((absL z.toNat es).getD (es.getD k (REdge.mk 0 0 (RQuat.mk 0 0 0 0))).to_.toNat (RQuat.mk 0 0 0 0)))) ((absL z.toNat es).getD (es.getD k (REdge.mk 0 0 (RQuat.mk 0 0 0 0))).fr.toNat (RQuat.mk 0 0 0 0)))) := qV_ok (ebt_nz hts heo (k := k) (by omega)) (show qC (qmul (qV (qcj ((absL z.toNat es).getD (es.getD k (REdge.mk 0 0 (RQuat.mk 0 0 0 0))).to_.toNat (RQuat.mk 0 0 0 0)))) ((absL z.toNat es).getD (es.getD k (REdge.mk 0 0 (RQuat.mk 0 0 0 0))).fr.toNat (RQuat.mk 0 0 0 0))) = 0 by omega)
          refine pwp_skip <| kx [(9, (vb (al && (sameQ (qV (qmul (qV (qcj ((absL z.toNat es).getD (((es.getD k (REdge.mk 0 0 (RQuat.mk 0 0 0 0))).to_).toNat) (RQuat.mk 0 0 0 0)))) ((absL z.toNat es).getD (((es.getD k (REdge.mk 0 0 (RQuat.mk 0 0 0 0))).fr).toNat) (RQuat.mk 0 0 0 0)))) ((es.getD k (REdge.mk 0 0 (RQuat.mk 0 0 0 0))).turn)))))] [] ?_ ?_
          · refine zM <| zE (oV (vb al) (mv_ok (by kernel_rfl))) <| ?_
            rcases hb5 : al with _ | _
            · exact zK <| zK <| zK <| zK <| zE oPf <| zM <| zZ
            · exact zR (oLa sh28) <| zE (oFr fo56_2) <| zR (oLa sh28) <| zE (oCl (l_same (qV (qmul (qV (qcj ((absL z.toNat es).getD (((es.getD k (REdge.mk 0 0 (RQuat.mk 0 0 0 0))).to_).toNat) (RQuat.mk 0 0 0 0)))) ((absL z.toNat es).getD (((es.getD k (REdge.mk 0 0 (RQuat.mk 0 0 0 0))).fr).toNat) (RQuat.mk 0 0 0 0)))) ((es.getD k (REdge.mk 0 0 (RQuat.mk 0 0 0 0))).turn) hqb hek6)) <| zE oPa <| zM <| zZ
          refine kx [(31, (vin (k + 1)))] [] (zE (oAd (k + 1)) <| zM <| zZ) ?_
          exact ⟨(k + 1, (al && (sameQ (qV (qmul (qV (qcj ((absL z.toNat es).getD (es.getD k (REdge.mk 0 0 (RQuat.mk 0 0 0 0))).to_.toNat (RQuat.mk 0 0 0 0)))) ((absL z.toNat es).getD (es.getD k (REdge.mk 0 0 (RQuat.mk 0 0 0 0))).fr.toNat (RQuat.mk 0 0 0 0)))) (es.getD k (REdge.mk 0 0 (RQuat.mk 0 0 0 0))).turn))), wk, ⟨by omega, erUp_s hv (show qC (qmul (qV (qcj ((absL z.toNat es).getD (es.getD k (REdge.mk 0 0 (RQuat.mk 0 0 0 0))).to_.toNat (RQuat.mk 0 0 0 0)))) ((absL z.toNat es).getD (es.getD k (REdge.mk 0 0 (RQuat.mk 0 0 0 0))).fr.toNat (RQuat.mk 0 0 0 0))) = 0 by omega), by rw [alS_take (by omega), ← ha]; rfl⟩, (by first | omega | (dsimp only; omega))⟩
      · replace h3 := of_decide_eq_false h3
        refine pwp_exit <| pwp_seq <| kx [(4, (vb al)), (5, (vin 0))] [] (zM <| zM <| zM <| zZ) ?_
        refine pwp_ret ⟨_, (.tmp (d := (.val (.bool (al)))) rfl (.tmp (d := (.val (.int .i64 (0)))) rfl .nil)), ?_⟩
        obtain ⟨q1, q2⟩ := con_0 hc0
        obtain ⟨q5, q6, q7⟩ := er_yes (es := es) (ts := (absL z.toNat es)) (k := k) (by omega) hv
        obtain ⟨q3, q4⟩ := cn_3 (n := z.toNat) (es := es) (by omega) q6
        rw [q1, q2, q3, q4, ha, show k = es.length by omega, List.take_length]; rfl
end Go.Proofs.YtihgdjljnaekmaaGreat
