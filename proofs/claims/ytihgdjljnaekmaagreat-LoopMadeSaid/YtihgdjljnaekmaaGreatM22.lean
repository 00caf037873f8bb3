/- Part 22 of a proof: rules, plain facts, and functions walked. -/
import Derived.Test.YtihgdjljnaekmaaGreatM21
import Derived.Test.YtihgdjljnaekmaaGreatM13
import Derived.Test.YtihgdjljnaekmaaGreatM11
import Derived.Test.YtihgdjljnaekmaaGreatM12
set_option linter.unusedVariables false
set_option linter.unusedSimpArgs false
namespace Go.Fid
open Go.RowKit (Below)
inductive CArgs (bl : List (Nat × List Dat)) : List Nat → List (List Dat) → Prop
  | nil : CArgs bl [] []
  | cons {k : Nat} {cs : List Dat} {ks : List Nat} {css : List (List Dat)} (hk : (k, cs) ∈ bl) (h : CArgs bl ks css) : CArgs bl (k :: ks) (cs :: css)
theorem CArgs.len {bl : List (Nat × List Dat)} {ks : List Nat} {css : List (List Dat)} (h : CArgs bl ks css) : ks.length = css.length := by
  induction h with
  | nil => rfl
  | cons hk h ih => simp [ih]
theorem CArgs.get {bl : List (Nat × List Dat)} {ks : List Nat} {css : List (List Dat)} (h : CArgs bl ks css) : ∀ (i : Nat) k cs, ks[i]? = some k → css[i]? = some cs → (k, cs) ∈ bl := by
  induction h with
  | nil => intro i k cs h; simp at h
  | cons hk h ih =>
    intro i k cs h1 h2
    rcases i with _ | i
    · simp at h1 h2; subst h1; subst h2; exact hk
    · exact ih i k cs (by simpa using h1) (by simpa using h2)
inductive MArgs (bl : List (Nat × List Dat)) (E : TypeId) : List SV → List Dat → Prop
  | nil : MArgs bl E [] []
  | d {x : Dat} {zs : List SV} {ds : List Dat} (h : MArgs bl E zs ds) : MArgs bl E (.d x :: zs) (x :: ds)
  | v {k q n s : Nat} {cs es : List Dat} {zs : List SV} {ds : List Dat} (hk : (k, cs) ∈ bl) (hes : ∀ e ∈ es, e.cells.length = s) (hl : es.length = n) (hc : (cs.drop q).take (n * s) = flat es) (h : MArgs bl E zs ds) : MArgs bl E (.view k q n :: zs) (.sl E s es :: ds)
  | p {k o : Nat} {cs : List Dat} {zs : List SV} {ds : List Dat} (hk : (k, cs) ∈ bl) (h : MArgs bl E zs ds) : MArgs bl E (.ref k o :: zs) (.cptr E cs o :: ds)
  | c {f : FuncId} {ks : List Nat} {css : List (List Dat)} {zs : List SV} {ds : List Dat} (hk : CArgs bl ks css) (h : MArgs bl E zs ds) : MArgs bl E (.clo f ks :: zs) (.clo f (css.map fun cs => .cptr E cs 0) :: ds)
theorem MArgs.len {bl : List (Nat × List Dat)} {E : TypeId} {zs : List SV} {ds : List Dat} (h : MArgs bl E zs ds) : zs.length = ds.length := by
  induction h with
  | nil => rfl
  | d h ih => simp [ih]
  | v hk hes hl hc h ih => simp [ih]
  | p hk h ih => simp [ih]
  | c hk h ih => simp [ih]
theorem MArgs.rep {bl : List (Nat × List Dat)} {E : TypeId} {zs : List SV} {ds : List Dat} (h : MArgs bl E zs ds) {w : World} {D D' : DSet} {β : BMap} (h1 : ∀ v x, Rep w D v x → Rep w D' v x)
    (h2 : ∀ (k q n s : Nat) (cs es : List Dat) (v : Value), (k, cs) ∈ bl → (∀ e ∈ es, e.cells.length = s) → es.length = n → (cs.drop q).take (n * s) = flat es → RepS w D β v (.view k q n) → Rep w D' v (.sl E s es))
    (h3 : ∀ (k o : Nat) (cs : List Dat) (v : Value), (k, cs) ∈ bl → RepS w D β v (.ref k o) → Rep w D' v (.cptr E cs o)) :
    ∀ (vs : List Value), vs.length = zs.length → (∀ (i : Nat) v x, vs[i]? = some v → zs[i]? = some x → RepS w D β v x) → ∀ (i : Nat) v d, vs[i]? = some v → ds[i]? = some d → Rep w D' v d := by
  induction h with
  | nil => intro vs _ _ i v d _ hd; simp at hd
  | d h ih =>
    intro vs hl hr i v d' hv hd
    rcases vs with _ | ⟨v0, vs⟩
    · simp at hl
    · rcases i with _ | i
      · simp at hv hd; subst hv; subst hd; exact h1 _ _ (hr 0 _ _ rfl rfl)
      · exact ih vs (by simpa using hl) (fun i v x h3 h4 => hr (i + 1) v x (by simpa using h3) (by simpa using h4)) i v d' (by simpa using hv) (by simpa using hd)
  | v hk hes hl' hc h ih =>
    intro vs hl hr i v d' hv hd
    rcases vs with _ | ⟨v0, vs⟩
    · simp at hl
    · rcases i with _ | i
      · simp at hv hd; subst hv; subst hd; exact h2 _ _ _ _ _ _ _ hk hes hl' hc (hr 0 _ _ rfl rfl)
      · exact ih vs (by simpa using hl) (fun i v x h3 h4 => hr (i + 1) v x (by simpa using h3) (by simpa using h4)) i v d' (by simpa using hv) (by simpa using hd)
  | p hk h ih =>
    intro vs hl hr i v d' hv hd
    rcases vs with _ | ⟨v0, vs⟩
    · simp at hl
    · rcases i with _ | i
      · simp at hv hd; subst hv; subst hd; exact h3 _ _ _ _ hk (hr 0 _ _ rfl rfl)
      · exact ih vs (by simpa using hl) (fun i v x h3 h4 => hr (i + 1) v x (by simpa using h3) (by simpa using h4)) i v d' (by simpa using hv) (by simpa using hd)
  | c hk h ih =>
    intro vs hl hr i v d' hv hd
    rcases vs with _ | ⟨v0, vs⟩
    · simp at hl
    · rcases i with _ | i
      · simp at hv hd; subst hv; subst hd
        obtain ⟨us, e1, e2, e3⟩ := hr 0 _ _ rfl rfl
        rw [e1]
        refine .clo us (by rw [e2, hk.len, List.length_map]) fun j u d hu hd => ?_
        rw [List.getElem?_map, Option.map_eq_some_iff] at hd
        obtain ⟨cs, hcs, rfl⟩ := hd
        have hlt : j < _ := (List.getElem?_eq_some_iff.1 hcs).1
        rw [← hk.len] at hlt
        obtain ⟨b, g1, g2⟩ := e3 j _ (List.getElem?_eq_getElem hlt)
        rw [hu] at g2
        injection g2 with g2
        exact h3 _ 0 cs u (hk.get j _ cs (List.getElem?_eq_getElem hlt) hcs) ⟨b, g1, g2⟩
      · exact ih vs (by simpa using hl) (fun i v x h3 h4 => hr (i + 1) v x (by simpa using h3) (by simpa using h4)) i v d' (by simpa using hv) (by simpa using hd)
end Go.Fid
set_option linter.unusedVariables false
set_option linter.unusedSimpArgs false
namespace Go.Fid
variable {P : Program}
def intFs (P : Program) : List Field → Nat → Bool
  | [], _ => true
  | f :: l, i => (f.name != "_") && (Nat.beq f.offset i && ((match P.underlying f.type with | some (.int _) => true | _ => false) && intFs P l (i + 1)))
def eqsB (P : Program) (T : TypeId) : Option Nat :=
  match P.underlying T with
  | some (.struct fs) => if intFs P fs.toList 0 && (!P.stoodInHeld T && !P.eqGuardType P.depth T) then some fs.size else none
  | _ => none
theorem run_part_int {t : TypeId} {ms : List Int} {i : Nat} {m : Int} {k j : IntKind} (ht : P.underlying t = some (.int j)) (hi : ms[i]? = some m) (w : World) : (part t (ms.map (Value.int k)).toArray i).run P w = .ok (.int k m) w := by
  have h2 : (ms.map (Value.int k))[i]? = some (.int k m) := by rw [List.getElem?_map, hi]; rfl
  simp [part, run_isAgg ht, isAggD, h2]
theorem run_eqInt {t : TypeId} {k j : IntKind} {m n : Int} (ht : P.underlying t = some (.int j)) (d : Nat) (w : World) : (Op.equalIn (d + 1) t (.int k m) (.int k n)).run P w = .ok (m == n) w := by
  simp [Op.equalIn, run_underlying ht]
theorem run_fs (k : IntKind) (d : Nat) (w : World) (ms ns : List Int) : ∀ (l : List Field) (i : Nat), intFs P l i = true → ms.length = i + l.length → ns.length = i + l.length →
    Sem.run P (forIn l ((none, ()) : Option Bool × Unit) fun f _ =>
            if f.name = "_" then pure (ForInStep.yield (none, ()))
            else do
              let a ← part f.type (List.map (Value.int k) ms).toArray f.offset
              let b ← part f.type (List.map (Value.int k) ns).toArray f.offset
              let c ← Op.equalIn (d + 1) f.type a b
              if c = false then pure (ForInStep.done (some false, ())) else pure (ForInStep.yield (none, ()))) w = .ok (if ms.drop i = ns.drop i then (none, ()) else (some false, ())) w
  | [], i, _, h1, h2 => by
    have e1 : ms.drop i = [] := List.drop_eq_nil_of_le (by simp at h1; omega)
    have e2 : ns.drop i = [] := List.drop_eq_nil_of_le (by simp at h2; omega)
    rw [e1, e2]; simp
  | f :: l, i, h, h1, h2 => by
    unfold intFs at h
    simp only [Bool.and_eq_true, bne_iff_ne, ne_eq] at h
    obtain ⟨g1, g2, g3, g4⟩ := h
    have g2 : f.offset = i := Nat.eq_of_beq_eq_true g2
    have hd : ∃ j, P.underlying f.type = some (.int j) := by
      split at g3
      · rename_i j e; exact ⟨j, e⟩
      · cases g3
    obtain ⟨j, hj⟩ := hd
    simp only [List.length_cons] at h1 h2
    have b1 : i < ms.length := by omega
    have b2 : i < ns.length := by omega
    have ih := run_fs k d w ms ns l (i + 1) g4 (by omega) (by omega)
    have e1 := List.drop_eq_getElem_cons b1
    have e2 := List.drop_eq_getElem_cons b2
    simp only [List.forIn_cons, g1, if_false, g2, Sem.run_bind, run_part_int hj (List.getElem?_eq_getElem b1), run_part_int hj (List.getElem?_eq_getElem b2), Result.andThen_ok, run_eqInt hj]
    by_cases he : ms[i] = ns[i]
    · have hx : (ms.drop i = ns.drop i) = (ms.drop (i + 1) = ns.drop (i + 1)) := by
        rw [e1, e2, he]
        exact propext ⟨fun h => (List.cons.inj h).2, fun h => by rw [h]⟩
      simp only [he, beq_self_eq_true, Bool.true_eq_false, if_false, Sem.run_pure, Result.andThen_ok]
      rw [ih]
      simp only [hx]
    · have hx : ¬ ms.drop i = ns.drop i := by
        rw [e1, e2]
        exact fun h => he (List.cons.inj h).1
      have hb : (ms[i] == ns[i]) = false := by simp [he]
      simp only [hb, if_true, Sem.run_pure, Result.andThen_ok, if_neg hx]
theorem run_eqS {T : TypeId} {c : Nat} (h : eqsB P T = some c) (k : IntKind) (ms ns : List Int) (h1 : ms.length = c) (h2 : ns.length = c) (w : World) :
    (Op.equal T (.agg (ms.map (Value.int k)).toArray) (.agg (ns.map (Value.int k)).toArray)).run P w = .ok (decide (ms = ns)) w ∧ P.eqGuardType P.depth T = false := by
  unfold eqsB at h
  split at h
  · rename_i fs hT
    split at h
    · rename_i hq
      simp only [Bool.and_eq_true, Bool.not_eq_true'] at hq
      injection h with h
      refine ⟨?_, hq.2.2⟩
      show (Op.equalIn (9998 + 2) T _ _).run P w = _
      rw [Op.equalIn]
      have hl := run_fs k 9998 w ms ns fs.toList 0 hq.1 (by simp; omega) (by simp; omega)
      rw [Array.forIn_toList] at hl
      simp [run_underlying hT, hq.2.1]
      have hl2 := hl
      simp only [List.drop_zero] at hl2
      rw [hl2]
      by_cases e : ms = ns
      · simp [e]
      · simp [e]
    · cases h
  · cases h
theorem rep_ints {w : World} {D : DSet} {v : Value} {k : IntKind} {ms : List Int} (h : Rep w D v (.agg (ms.map fun m => .val (.int k m)))) : v = .agg (ms.map (Value.int k)).toArray := by
  obtain ⟨vs, rfl, hl, _, hr⟩ := rep_agg h
  have e : vs = ms.map (Value.int k) := by
    refine List.ext_getElem (by simpa using hl) fun i h1 h2 => ?_
    have hi : i < ms.length := by simpa using h2
    have := rep_val (hr i vs[i] (.val (.int k ms[i])) (List.getElem?_eq_getElem h1) (by rw [List.getElem?_map, List.getElem?_eq_getElem hi]; rfl))
    rw [this]; simp
  rw [e]
theorem e_eqs {o : Oper} {S : Nat → SV} {T T' : TypeId} {x y : Operand} {k : IntKind} {ms ns : List Int} {c : Nat} (ho : o.op = .binOp .eql T x y T') (hT : eqsB P T = some c) (hx : ev S x = .d (.agg (ms.map fun m => .val (.int k m)))) (hy : ev S y = .d (.agg (ns.map fun m => .val (.int k m)))) (h1 : ms.length = c) (h2 : ns.length = c) : EOk P o S [] (.d (.val (.bool (decide (ms = ns))))) :=
  EOk.same fun a w D β hop _ => by
    have hx' := hop x (by simp [ho, Op.operands])
    have hy' := hop y (by simp [ho, Op.operands])
    rw [hx] at hx'
    rw [hy] at hy'
    have ex := rep_ints hx'
    have ey := rep_ints hy'
    obtain ⟨g1, g2⟩ := run_eqS hT k ms ns h1 h2 w
    refine ⟨.bool (decide (ms = ns)), ?_, .val _⟩
    simp [execOp, ho, ex, ey, eqGuard, g2, binOp, g1]
theorem oEs {P : Program} {o : Oper} {S : Nat → SV} {T T' : TypeId} {x y : Operand} {c : Nat} (hT : eqsB P T = some c) (k : IntKind) (ms ns : List Int) (ho : o.op = .binOp .eql T x y T' := by exact rfl) (hx : ev S x = .d (.agg (ms.map fun m => .val (.int k m))) := by kernel_rfl) (hy : ev S y = .d (.agg (ns.map fun m => .val (.int k m))) := by kernel_rfl) (h1 : ms.length = c := by exact rfl) (h2 : ns.length = c := by exact rfl) : EOk P o S [] (.d (.val (.bool (decide (ms = ns))))) := e_eqs ho hT hx hy h1 h2
end Go.Fid
set_option linter.unusedVariables false
set_option linter.unusedSimpArgs false
namespace Go.Fid
variable {P : Program} {o : Oper} {S : Nat → SV}
end Go.Fid
namespace Go.Proofs.YtihgdjljnaekmaaGreat
open Go.Fid
theorem avo_encQuat (x : RQuat) : Avoids 1000000 (encQuat x) := .agg (avo_cons (.val _) (avo_cons (.val _) (avo_cons (.val _) (avo_cons (.val _) avo_nil))))
end Go.Proofs.YtihgdjljnaekmaaGreat
namespace Go.Proofs.YtihgdjljnaekmaaGreat
open Go.Fid
set_option maxRecDepth 4000
set_option linter.unusedVariables false
set_option linter.unusedSimpArgs false
theorem ar146 : arrB Tryz.prog 146 = some (4, 3, 1) := by kernel_rfl
theorem cb37 : callB Tryz.prog 37 = true := by kernel_rfl
theorem cb60 : callB Tryz.prog 60 = true := by kernel_rfl
theorem cb88 : callB Tryz.prog 88 = true := by kernel_rfl
theorem cb103 : callB Tryz.prog 103 = true := by kernel_rfl
theorem el60 : elemB Tryz.prog 60 = some (3, 1) := by kernel_rfl
theorem eqs28 : eqsB Tryz.prog 28 = some 4 := by kernel_rfl
theorem fo28_0 : fieldB Tryz.prog 28 0 = some 0 := by kernel_rfl
theorem fo28_1 : fieldB Tryz.prog 28 1 = some 1 := by kernel_rfl
theorem fo28_2 : fieldB Tryz.prog 28 2 = some 2 := by kernel_rfl
theorem fo28_3 : fieldB Tryz.prog 28 3 = some 3 := by kernel_rfl
theorem pl28 : placesB Tryz.prog 28 = some [(0, 1), (1, 1), (2, 1), (3, 1)] := by kernel_rfl
theorem sh28 : shapeB Tryz.prog 28 = some (true, 4) := by kernel_rfl
theorem sh146 : shapeB Tryz.prog 146 = some (true, 4) := by kernel_rfl
theorem ze28 : zeroB Tryz.prog 28 = some [.int .i64 0, .int .i64 0, .int .i64 0, .int .i64 0] := by kernel_rfl
theorem ze146 : zeroB Tryz.prog 146 = some [.int .i64 0, .int .i64 0, .int .i64 0, .int .i64 0] := by kernel_rfl
theorem zo28 : ZOk [.int .i64 0, .int .i64 0, .int .i64 0, .int .i64 0] [.val (.int .i64 0), .val (.int .i64 0), .val (.int .i64 0), .val (.int .i64 0)] := by simp [ZOk, Value.oneCell']
theorem zo146 : ZOk [.int .i64 0, .int .i64 0, .int .i64 0, .int .i64 0] [.val (.int .i64 0), .val (.int .i64 0), .val (.int .i64 0), .val (.int .i64 0)] := by simp [ZOk, Value.oneCell']
theorem q_parts (a b c d : Int) : Takes Tryz.prog 103 [(encQuat (RQuat.mk a b c d))] (encA146 (A4.mk a b c d)) := by
  refine fn_intro Tryz.func103 rfl cb103 rfl ?_
  show PWp _ _ _ _ ⟨[(0, (.d (encQuat (RQuat.mk a b c d))))], []⟩
  refine pwp_seq <| kx [(1, (.ref 0 0)), (2, (.ref 1 0))] [(0, some (bx (encQuat (RQuat.mk a b c d)))), (1, some (bx (encA146 (A4.mk 0 0 0 0))))] (zN (oBx 0) <| zN (oAl 1 ze146 zo146) <| zZ) ?_
  refine pwp_seq <| kx [] [(1, some (bx (encA146 (A4.mk a b c d))))] (zE (oFr fo28_0) <| zR (oL1 sh3) <| zE (oFr fo28_1) <| zR (oL1 sh3) <| zE (oFr fo28_2) <| zR (oL1 sh3) <| zE (oFr fo28_3) <| zR (oL1 sh3) <| zE (oBf ar146 ze146 zo146) <| zT (oSt sh146) <| zZ) ?_
  refine pwp_ret ⟨_, (res_a (cs := (bx (encA146 (A4.mk a b c d)))) (d := (encA146 (A4.mk a b c d))) rfl rfl sh146 rfl rfl .nil), ?_⟩
  rfl
theorem qs_list (a b c d : Int) : Takes Tryz.prog 88 [(encQuat (RQuat.mk a b c d))] (.sl 3 1 (List.map enc_i64 [a, b, c, d])) := by
  refine fn_intro Tryz.func88 rfl cb88 rfl ?_
  show PWp _ _ _ _ ⟨[(0, (.d (encQuat (RQuat.mk a b c d))))], []⟩
  refine pwp_seq <| kx [(1, (.ref 0 0))] [(0, some (bx (encQuat (RQuat.mk a b c d))))] (zN (oBx 0) <| zE (oNl 3 1) <| zZ) ?_
  refine pwp_seq <| kx [(2, (vl 3 1 enc_i64 [a, b, c, d]))] [] (zE (oFr fo28_0) <| zR (oL1 sh3) <| zE (oFr fo28_1) <| zR (oL1 sh3) <| zE (oFr fo28_2) <| zR (oL1 sh3) <| zE (oFr fo28_3) <| zR (oL1 sh3) <| zE (oBs el60 ze3 zo3) <| zM <| zZ) ?_
  refine pwp_ret ⟨_, (.tmp (d := (.sl 3 1 (List.map enc_i64 [a, b, c, d]))) rfl .nil), ?_⟩
  rfl
theorem q_chk (a b c d : Int) : Takes Tryz.prog 60 [(encQuat (RQuat.mk a b c d))] (.val (.int .i64 ((((rotC a b c d) : Nat) : Int)))) := by
  refine fn_intro Tryz.func60 rfl cb60 rfl ?_
  show PWp _ _ _ _ ⟨[(0, (.d (encQuat (RQuat.mk a b c d))))], []⟩
  refine pwp_seq <| kx [(1, (.ref 0 0))] [(0, some (bx (encQuat (RQuat.mk a b c d))))] (zN (oBx 0) <| zM <| zZ) ?_
  refine pwp_seq <| pwp_seq <| kx [(7, (vb (decide ([a, b, c, d] = [0, 0, 0, 0]))))] [] (zR (oLa sh28) <| zE (oBd pl28 ze28 zo28) <| zE (oEs eqs28 .i64 [a, b, c, d] [0, 0, 0, 0]) <| zZ) ?_
  refine pwp_cond (b := (decide ([a, b, c, d] = [0, 0, 0, 0]))) rfl (fun h1 => ?_) (fun h1 => ?_)
  · replace h1 := of_decide_eq_true h1
    refine pwp_seq <| kx [(2, (vin 1))] [] (zM <| zZ) ?_
    refine pwp_ret ⟨_, (.tmp (d := (.val (.int .i64 (((1 : Nat) : Int))))) rfl .nil), ?_⟩
    rw [rotC_z (by simp_all)]; rfl
  · replace h1 := of_decide_eq_false h1
    refine pwp_skip <| pwp_seq <| pwp_seq <| kx [(9, (.d (encA146 (A4.mk a b c d)))), (10, (vin 0))] [] (zR (oLa sh28) <| zE (oCl (q_parts a b c d)) <| zM <| zZ) ?_
    refine pwp_block <| pwp_rounds 20 ?_
    refine pwp_round <| pwp_seq <| kx [(11, (vb true))] [] (zE (oBk true oLt) <| zZ) ?_
    refine pwp_seq <| pwp_cond (b := true) (by kernel_rfl) (fun _ => ?_) (fun h => by cases h)
    refine pwp_skip <| pwp_seq <| pwp_block <| pwp_seq <| kx [(4, (vi a))] [] (zE (oXa ar146 sh3 (fun _ => rfl) 0) <| zM <| zZ) ?_
    refine pwp_seq <| kx [(18, (vb (decide (a < -1048576) || decide (((1048576 : Nat) : Int) < a))))] [] ?_ ?_
    · refine zM <| zE oLt <| zE (oV (vb (decide (a < -1048576))) (mv_ok (by kernel_rfl))) <| ?_
      rcases hb2 : (decide (a < -1048576)) with _ | _
      · replace hb2 := of_decide_eq_false hb2
        exact zM <| zE oGt <| zE oPo <| zZ
      · replace hb2 := of_decide_eq_true hb2
        exact zK <| zK <| zE oPt <| zZ
    refine pwp_cond rfl (fun h3 => ?_) (fun h3 => ?_)
    · refine pwp_seq <| kx [(2, (vin 3))] [] (zM <| zZ) ?_
      refine pwp_ret ⟨_, (.tmp (d := (.val (.int .i64 (((3 : Nat) : Int))))) rfl .nil), ?_⟩
      first | (rw [rotC_l (by simp_all) (by first | (simp_all; done) | (simp_all; omega))]; rfl) | (rw [rotC_0 (by simp_all) (by first | (simp_all; done) | (simp_all; omega))]; rfl)
    · refine pwp_skip <| kx [(10, (vin 1))] [] (zE (oAd 1 (hr := by decide)) <| zM <| zZ) ?_
      refine pwp_again (SimImp.refl _) ?_
      refine pwp_seq <| kx [(11, (vb true))] [] (zE (oBk true oLt) <| zZ) ?_
      refine pwp_seq <| pwp_cond (b := true) (by kernel_rfl) (fun _ => ?_) (fun h => by cases h)
      refine pwp_skip <| pwp_seq <| pwp_block <| pwp_seq <| kx [(4, (vi b))] [] (zE (oXa ar146 sh3 (fun _ => rfl) 1) <| zM <| zZ) ?_
      refine pwp_seq <| kx [(18, (vb (decide (b < -1048576) || decide (((1048576 : Nat) : Int) < b))))] [] ?_ ?_
      · refine zM <| zE oLt <| zE (oV (vb (decide (b < -1048576))) (mv_ok (by kernel_rfl))) <| ?_
        rcases hb4 : (decide (b < -1048576)) with _ | _
        · replace hb4 := of_decide_eq_false hb4
          exact zM <| zE oGt <| zE oPo <| zZ
        · replace hb4 := of_decide_eq_true hb4
          exact zK <| zK <| zE oPt <| zZ
      refine pwp_cond rfl (fun h5 => ?_) (fun h5 => ?_)
      · refine pwp_seq <| kx [(2, (vin 3))] [] (zM <| zZ) ?_
        refine pwp_ret ⟨_, (.tmp (d := (.val (.int .i64 (((3 : Nat) : Int))))) rfl .nil), ?_⟩
        first | (rw [rotC_l (by simp_all) (by first | (simp_all; done) | (simp_all; omega))]; rfl) | (rw [rotC_0 (by simp_all) (by first | (simp_all; done) | (simp_all; omega))]; rfl)
      · refine pwp_skip <| kx [(10, (vin 2))] [] (zE (oAd 2 (hr := by decide)) <| zM <| zZ) ?_
        refine pwp_again (SimImp.refl _) ?_
        refine pwp_seq <| kx [(11, (vb true))] [] (zE (oBk true oLt) <| zZ) ?_
        refine pwp_seq <| pwp_cond (b := true) (by kernel_rfl) (fun _ => ?_) (fun h => by cases h)
        refine pwp_skip <| pwp_seq <| pwp_block <| pwp_seq <| kx [(4, (vi c))] [] (zE (oXa ar146 sh3 (fun _ => rfl) 2) <| zM <| zZ) ?_
        refine pwp_seq <| kx [(18, (vb (decide (c < -1048576) || decide (((1048576 : Nat) : Int) < c))))] [] ?_ ?_
        · refine zM <| zE oLt <| zE (oV (vb (decide (c < -1048576))) (mv_ok (by kernel_rfl))) <| ?_
          rcases hb6 : (decide (c < -1048576)) with _ | _
          · replace hb6 := of_decide_eq_false hb6
            exact zM <| zE oGt <| zE oPo <| zZ
          · replace hb6 := of_decide_eq_true hb6
            exact zK <| zK <| zE oPt <| zZ
        refine pwp_cond rfl (fun h7 => ?_) (fun h7 => ?_)
        · refine pwp_seq <| pwp_sim (wk (l := [(9, (.d (encA146 (A4.mk a b c d)))), (10, (vin 2)), (18, (vb (decide (c < -1048576) || decide (((1048576 : Nat) : Int) < c))))]) (b := [])) ?_
          refine kx [(2, (vin 3))] [] (zM <| zZ) ?_
          refine pwp_ret ⟨_, (.tmp (d := (.val (.int .i64 (((3 : Nat) : Int))))) rfl .nil), ?_⟩
          first | (rw [rotC_l (by simp_all) (by first | (simp_all; done) | (simp_all; omega))]; rfl) | (rw [rotC_0 (by simp_all) (by first | (simp_all; done) | (simp_all; omega))]; rfl)
        · refine pwp_skip <| pwp_sim (wk (l := [(9, (.d (encA146 (A4.mk a b c d)))), (10, (vin 2)), (18, (vb (decide (c < -1048576) || decide (((1048576 : Nat) : Int) < c))))]) (b := [])) ?_
          refine kx [(10, (vin 3))] [] (zE (oAd 3 (hr := by decide)) <| zM <| zZ) ?_
          refine pwp_again (SimImp.refl _) ?_
          refine pwp_seq <| kx [(11, (vb true))] [] (zE (oBk true oLt) <| zZ) ?_
          refine pwp_seq <| pwp_cond (b := true) (by kernel_rfl) (fun _ => ?_) (fun h => by cases h)
          refine pwp_skip <| pwp_seq <| pwp_block <| pwp_seq <| kx [(4, (vi d))] [] (zE (oXa ar146 sh3 (fun _ => rfl) 3) <| zM <| zZ) ?_
          refine pwp_seq <| kx [(18, (vb (decide (d < -1048576) || decide (((1048576 : Nat) : Int) < d))))] [] ?_ ?_
          · refine zM <| zE oLt <| zE (oV (vb (decide (d < -1048576))) (mv_ok (by kernel_rfl))) <| ?_
            rcases hb8 : (decide (d < -1048576)) with _ | _
            · replace hb8 := of_decide_eq_false hb8
              exact zM <| zE oGt <| zE oPo <| zZ
            · replace hb8 := of_decide_eq_true hb8
              exact zK <| zK <| zE oPt <| zZ
          refine pwp_cond rfl (fun h9 => ?_) (fun h9 => ?_)
          · refine pwp_seq <| kx [(2, (vin 3))] [] (zM <| zZ) ?_
            refine pwp_ret ⟨_, (.tmp (d := (.val (.int .i64 (((3 : Nat) : Int))))) rfl .nil), ?_⟩
            first | (rw [rotC_l (by simp_all) (by first | (simp_all; done) | (simp_all; omega))]; rfl) | (rw [rotC_0 (by simp_all) (by first | (simp_all; done) | (simp_all; omega))]; rfl)
          · refine pwp_skip <| kx [(10, (vin 4))] [] (zE (oAd 4 (hr := by decide)) <| zM <| zZ) ?_
            refine pwp_again (SimImp.refl _) ?_
            refine pwp_seq <| kx [(11, (vb false))] [] (zE (oBk false oLt) <| zZ) ?_
            refine pwp_seq <| pwp_cond (b := false) (by kernel_rfl) (fun h => by cases h) (fun _ => ?_)
            refine pwp_exit <| pwp_seq <| kx [(2, (vin 0))] [] (zM <| zZ) ?_
            refine pwp_ret ⟨_, (.tmp (d := (.val (.int .i64 (((0 : Nat) : Int))))) rfl .nil), ?_⟩
            first | (rw [rotC_l (by simp_all) (by first | (simp_all; done) | (simp_all; omega))]; rfl) | (rw [rotC_0 (by simp_all) (by first | (simp_all; done) | (simp_all; omega))]; rfl)
theorem qs_chk (a b c d : Int) : Takes Tryz.prog 37 [(encQuat (RQuat.mk a b c d))] (.val (.int .i64 ((((rotC a b c d) : Nat) : Int)))) := by
  refine fn_intro Tryz.func37 rfl cb37 rfl ?_
  show PWp _ _ _ _ ⟨[(0, (.d (encQuat (RQuat.mk a b c d))))], []⟩
  refine pwp_seq <| kx [(1, (.ref 0 0))] [(0, some (bx (encQuat (RQuat.mk a b c d))))] (zN (oBx 0) <| zM <| zZ) ?_
  refine pwp_seq <| pwp_seq <| kx [(22, (vb ((((a == ((0 : Nat) : Int)) && (b == ((0 : Nat) : Int))) && (c == ((0 : Nat) : Int))) && (d == ((0 : Nat) : Int)))))] [] ?_ ?_
  · refine zE (oFr fo28_0) <| zR (oL1 sh3) <| zE oEq <| zE (oV (vb (a == ((0 : Nat) : Int))) (mv_ok (by kernel_rfl))) <| ?_
    rcases hb1 : (a == ((0 : Nat) : Int)) with _ | _
    · replace hb1 := ne_of_beq_false hb1
      exact zK <| zK <| zK <| zE oPf <| zM <| zK <| zK <| zK <| zE oPf <| zM <| zK <| zK <| zK <| zE oPf <| zZ
    · replace hb1 := eq_of_beq hb1
      refine zE (oFr fo28_1) <| zR (oL1 sh3) <| zE oEq <| zE oPa <| zE (oV (vb (true && (b == ((0 : Nat) : Int)))) (mv_ok (by kernel_rfl))) <| ?_
      rcases hb2 : (true && (b == ((0 : Nat) : Int))) with _ | _
      · exact zK <| zK <| zK <| zE oPf <| zM <| zK <| zK <| zK <| zE oPf <| zZ
      · refine zE (oFr fo28_2) <| zR (oL1 sh3) <| zE oEq <| zE oPa <| zE (oV (vb (true && (c == ((0 : Nat) : Int)))) (mv_ok (by kernel_rfl))) <| ?_
        rcases hb3 : (true && (c == ((0 : Nat) : Int))) with _ | _
        · exact zK <| zK <| zK <| zE oPf <| zZ
        · exact zE (oFr fo28_3) <| zR (oL1 sh3) <| zE oEq <| zE oPa <| zZ
  refine pwp_cond rfl (fun h4 => ?_) (fun h4 => ?_)
  · refine pwp_seq <| kx [(2, (vin 1))] [] (zM <| zZ) ?_
    refine pwp_ret ⟨_, (.tmp (d := (.val (.int .i64 (((1 : Nat) : Int))))) rfl .nil), ?_⟩
    rw [rotC_z (by simp_all)]; rfl
  · refine pwp_skip <| pwp_seq <| kx [(3, (vl 3 1 enc_i64 [a, b, c, d]))] [] (zR (oLa sh28) <| zE (oCl (qs_list a b c d)) <| zM <| zZ) ?_
    refine pwp_seq <| pwp_seq <| kx [(4, (vin 0))] [] (zM <| zZ) ?_
    refine pwp_block <| pwp_rounds 20 ?_
    refine pwp_round <| pwp_seq <| pwp_seq <| kx [(26, (vb true))] [] (zM <| zE (oBk true oLt) <| zZ) ?_
    refine pwp_cond (b := true) (by kernel_rfl) (fun _ => ?_) (fun h => by cases h)
    refine pwp_skip <| pwp_seq <| pwp_block <| pwp_seq <| kx [(40, (vb (decide (((1048576 : Nat) : Int) < a) || decide (a < -1048576))))] [] ?_ ?_
    · refine zM <| zM <| zE (oXs el60 0) <| zE (oC1 sh3) <| zE oGt <| zE (oV (vb (decide (((1048576 : Nat) : Int) < a))) (mv_ok (by kernel_rfl))) <| ?_
      rcases hb5 : (decide (((1048576 : Nat) : Int) < a)) with _ | _
      · replace hb5 := of_decide_eq_false hb5
        exact zM <| zM <| zE (oXs el60 0) <| zE (oC1 sh3) <| zE oLt <| zE oPo <| zZ
      · replace hb5 := of_decide_eq_true hb5
        exact zK <| zK <| zK <| zK <| zK <| zE oPt <| zZ
    refine pwp_cond rfl (fun h6 => ?_) (fun h6 => ?_)
    · refine pwp_seq <| kx [(2, (vin 3))] [] (zM <| zZ) ?_
      refine pwp_ret ⟨_, (.tmp (d := (.val (.int .i64 (((3 : Nat) : Int))))) rfl .nil), ?_⟩
      first | (rw [rotC_l (by simp_all) (by first | (simp_all; done) | (simp_all; omega))]; rfl) | (rw [rotC_0 (by simp_all) (by first | (simp_all; done) | (simp_all; omega))]; rfl)
    · refine pwp_skip <| kx [(4, (vin 1))] [] (zM <| zE (oAd 1 (hr := by decide)) <| zM <| zZ) ?_
      refine pwp_again (SimImp.refl _) ?_
      refine pwp_seq <| pwp_seq <| kx [(26, (vb true))] [] (zM <| zE (oBk true oLt) <| zZ) ?_
      refine pwp_cond (b := true) (by kernel_rfl) (fun _ => ?_) (fun h => by cases h)
      refine pwp_skip <| pwp_seq <| pwp_block <| pwp_seq <| kx [(40, (vb (decide (((1048576 : Nat) : Int) < b) || decide (b < -1048576))))] [] ?_ ?_
      · refine zM <| zM <| zE (oXs el60 1) <| zE (oC1 sh3) <| zE oGt <| zE (oV (vb (decide (((1048576 : Nat) : Int) < b))) (mv_ok (by kernel_rfl))) <| ?_
        rcases hb7 : (decide (((1048576 : Nat) : Int) < b)) with _ | _
        · replace hb7 := of_decide_eq_false hb7
          exact zM <| zM <| zE (oXs el60 1) <| zE (oC1 sh3) <| zE oLt <| zE oPo <| zZ
        · replace hb7 := of_decide_eq_true hb7
          exact zK <| zK <| zK <| zK <| zK <| zE oPt <| zZ
      refine pwp_cond rfl (fun h8 => ?_) (fun h8 => ?_)
      · refine pwp_seq <| kx [(2, (vin 3))] [] (zM <| zZ) ?_
        refine pwp_ret ⟨_, (.tmp (d := (.val (.int .i64 (((3 : Nat) : Int))))) rfl .nil), ?_⟩
        first | (rw [rotC_l (by simp_all) (by first | (simp_all; done) | (simp_all; omega))]; rfl) | (rw [rotC_0 (by simp_all) (by first | (simp_all; done) | (simp_all; omega))]; rfl)
      · refine pwp_skip <| kx [(4, (vin 2))] [] (zM <| zE (oAd 2 (hr := by decide)) <| zM <| zZ) ?_
        refine pwp_again (SimImp.refl _) ?_
        refine pwp_seq <| pwp_seq <| kx [(26, (vb true))] [] (zM <| zE (oBk true oLt) <| zZ) ?_
        refine pwp_cond (b := true) (by kernel_rfl) (fun _ => ?_) (fun h => by cases h)
        refine pwp_skip <| pwp_seq <| pwp_block <| pwp_seq <| kx [(40, (vb (decide (((1048576 : Nat) : Int) < c) || decide (c < -1048576))))] [] ?_ ?_
        · refine zM <| zM <| zE (oXs el60 2) <| zE (oC1 sh3) <| zE oGt <| zE (oV (vb (decide (((1048576 : Nat) : Int) < c))) (mv_ok (by kernel_rfl))) <| ?_
          rcases hb9 : (decide (((1048576 : Nat) : Int) < c)) with _ | _
          · replace hb9 := of_decide_eq_false hb9
            exact zM <| zM <| zE (oXs el60 2) <| zE (oC1 sh3) <| zE oLt <| zE oPo <| zZ
          · replace hb9 := of_decide_eq_true hb9
            exact zK <| zK <| zK <| zK <| zK <| zE oPt <| zZ
        refine pwp_cond rfl (fun h10 => ?_) (fun h10 => ?_)
        · refine pwp_seq <| kx [(2, (vin 3))] [] (zM <| zZ) ?_
          refine pwp_ret ⟨_, (.tmp (d := (.val (.int .i64 (((3 : Nat) : Int))))) rfl .nil), ?_⟩
          first | (rw [rotC_l (by simp_all) (by first | (simp_all; done) | (simp_all; omega))]; rfl) | (rw [rotC_0 (by simp_all) (by first | (simp_all; done) | (simp_all; omega))]; rfl)
        · refine pwp_skip <| kx [(4, (vin 3))] [] (zM <| zE (oAd 3 (hr := by decide)) <| zM <| zZ) ?_
          refine pwp_again (SimImp.refl _) ?_
          refine pwp_seq <| pwp_seq <| kx [(26, (vb true))] [] (zM <| zE (oBk true oLt) <| zZ) ?_
          refine pwp_cond (b := true) (by kernel_rfl) (fun _ => ?_) (fun h => by cases h)
          refine pwp_skip <| pwp_seq <| pwp_block <| pwp_seq <| pwp_sim (wk (l := [(3, (vl 3 1 enc_i64 [a, b, c, d])), (4, (vin 3)), (26, (vb true))]) (b := [])) ?_
          refine kx [(40, (vb (decide (((1048576 : Nat) : Int) < d) || decide (d < -1048576))))] [] ?_ ?_
          · refine zM <| zM <| zE (oXs el60 3) <| zE (oC1 sh3) <| zE oGt <| zE (oV (vb (decide (((1048576 : Nat) : Int) < d))) (mv_ok (by kernel_rfl))) <| ?_
            rcases hb11 : (decide (((1048576 : Nat) : Int) < d)) with _ | _
            · replace hb11 := of_decide_eq_false hb11
              exact zM <| zM <| zE (oXs el60 3) <| zE (oC1 sh3) <| zE oLt <| zE oPo <| zZ
            · replace hb11 := of_decide_eq_true hb11
              exact zK <| zK <| zK <| zK <| zK <| zE oPt <| zZ
          refine pwp_cond rfl (fun h12 => ?_) (fun h12 => ?_)
          · refine pwp_seq <| kx [(2, (vin 3))] [] (zM <| zZ) ?_
            refine pwp_ret ⟨_, (.tmp (d := (.val (.int .i64 (((3 : Nat) : Int))))) rfl .nil), ?_⟩
            first | (rw [rotC_l (by simp_all) (by first | (simp_all; done) | (simp_all; omega))]; rfl) | (rw [rotC_0 (by simp_all) (by first | (simp_all; done) | (simp_all; omega))]; rfl)
          · refine pwp_skip <| kx [(4, (vin 4))] [] (zM <| zE (oAd 4 (hr := by decide)) <| zM <| zZ) ?_
            refine pwp_again (SimImp.refl _) ?_
            refine pwp_seq <| pwp_seq <| kx [(26, (vb false))] [] (zM <| zE (oBk false oLt) <| zZ) ?_
            refine pwp_cond (b := false) (by kernel_rfl) (fun h => by cases h) (fun _ => ?_)
            refine pwp_exit <| pwp_seq <| kx [(2, (vin 0))] [] (zM <| zZ) ?_
            refine pwp_ret ⟨_, (.tmp (d := (.val (.int .i64 (((0 : Nat) : Int))))) rfl .nil), ?_⟩
            first | (rw [rotC_l (by simp_all) (by first | (simp_all; done) | (simp_all; omega))]; rfl) | (rw [rotC_0 (by simp_all) (by first | (simp_all; done) | (simp_all; omega))]; rfl)
end Go.Proofs.YtihgdjljnaekmaaGreat
namespace Go.Proofs.YtihgdjljnaekmaaGreat
open Go.Fid
set_option maxRecDepth 4000
set_option linter.unusedVariables false
set_option linter.unusedSimpArgs false
theorem cb107 : callB Tryz.prog 107 = true := by kernel_rfl
theorem qr_norm (a b c d : Int) (ha : -1048576 ≤ a ∧ a ≤ 1048576) (hb : -1048576 ≤ b ∧ b ≤ 1048576) (hc : -1048576 ≤ c ∧ c ≤ 1048576) (hd : -1048576 ≤ d ∧ d ≤ 1048576) : Takes Tryz.prog 107 [(encQuat (RQuat.mk a b c d))] (.val (.int .i64 ((nq a b c d)))) := by
  have saa := sq_b ha ha
  have sab := sq_b ha hb
  have sac := sq_b ha hc
  have sad := sq_b ha hd
  have sbb := sq_b hb hb
  have sbc := sq_b hb hc
  have sbd := sq_b hb hd
  have scc := sq_b hc hc
  have scd := sq_b hc hd
  have sdd := sq_b hd hd
  refine fn_intro Tryz.func107 rfl cb107 rfl ?_
  show PWp _ _ _ _ ⟨[(0, (.d (encQuat (RQuat.mk a b c d))))], []⟩
  refine pwp_seq <| kx [(1, (.ref 0 0))] [(0, some (bx (encQuat (RQuat.mk a b c d))))] (zN (oBx 0) <| zM <| zZ) ?_
  refine pwp_seq <| kx [(2, (vi ((((a * a) + (b * b)) + (c * c)) + (d * d))))] [] (zE (oFr fo28_0) <| zR (oL1 sh3) <| zE (oFr fo28_0) <| zR (oL1 sh3) <| zE (zMl (a * a) (hr := by exact (wAny rfl (by simp only [kLo]; omega) (by simp only [kHi]; omega)))) <| zE (oFr fo28_1) <| zR (oL1 sh3) <| zE (oFr fo28_1) <| zR (oL1 sh3) <| zE (zMl (b * b) (hr := by exact (wAny rfl (by simp only [kLo]; omega) (by simp only [kHi]; omega)))) <| zE (zAd ((a * a) + (b * b)) (hr := by exact (wAny rfl (by simp only [kLo]; omega) (by simp only [kHi]; omega)))) <| zE (oFr fo28_2) <| zR (oL1 sh3) <| zE (oFr fo28_2) <| zR (oL1 sh3) <| zE (zMl (c * c) (hr := by exact (wAny rfl (by simp only [kLo]; omega) (by simp only [kHi]; omega)))) <| zE (zAd (((a * a) + (b * b)) + (c * c)) (hr := by exact (wAny rfl (by simp only [kLo]; omega) (by simp only [kHi]; omega)))) <| zE (oFr fo28_3) <| zR (oL1 sh3) <| zE (oFr fo28_3) <| zR (oL1 sh3) <| zE (zMl (d * d) (hr := by exact (wAny rfl (by simp only [kLo]; omega) (by simp only [kHi]; omega)))) <| zE (zAd ((((a * a) + (b * b)) + (c * c)) + (d * d)) (hr := by exact (wAny rfl (by simp only [kLo]; omega) (by simp only [kHi]; omega)))) <| zM <| zZ) ?_
  refine pwp_ret ⟨_, (.tmp (d := (.val (.int .i64 (((((a * a) + (b * b)) + (c * c)) + (d * d)))))) rfl .nil), ?_⟩
  rfl
end Go.Proofs.YtihgdjljnaekmaaGreat
set_option linter.unusedVariables false
set_option linter.unusedSimpArgs false
namespace Go.Fid
variable {P : Program} {o : Oper} {S : Nat → SV}
end Go.Fid
set_option linter.unusedVariables false
set_option linter.unusedSimpArgs false
namespace Go.Fid
open Go.RowKit (Below)
theorem names_get {k : Nat} {cs : List SV} (h : namesAny k cs = false) {i : Nat} {x : SV} (hx : cs[i]? = some x) : x.names k = false := by
  simp only [namesAny, List.any_eq_false] at h
  simpa using h x (List.mem_of_getElem? hx)
section
variable {P : Program} {o : Oper} {st : PS}
end
section
variable {P : Program} {o : Oper} {S : Nat → SV}
end
end Go.Fid
set_option linter.unusedVariables false
set_option linter.unusedSimpArgs false
namespace Go.Fid
open Go.RowKit (Below)
section
variable {P : Program} {o : Oper} {S : SL}
end
end Go.Fid
set_option linter.unusedVariables false
set_option linter.unusedSimpArgs false
namespace Go.Fid
section
variable {P : Program} {n : Fr} {ops : Array Oper} {K : SL → BS → Prop} {S : SL} {B : BS} {l : List Oper} {o : Oper} {α : Type} {T E t' : TypeId} {x y : Operand} {k s m bytes : Nat} {zv : List Value}
variable {news : List Nat} {acc0 : List (List Nat × List Nat)}
end
end Go.Fid
set_option linter.unusedVariables false
set_option linter.unusedSimpArgs false
namespace Go.Fid
def swN (k k' j : Nat) : Nat := bif Nat.beq j k then k' else j
def SV.sw (k k' : Nat) : SV → SV
  | .ref j o => .ref (swN k k' j) o
  | .own j t s n => .own (swN k k' j) t s n
  | .view j o n => .view (swN k k' j) o n
  | .clo f ks => .clo f (ks.map (swN k k'))
  | .pr j t s n x => .pr (swN k k' j) t s n x
  | x => x
theorem swN_eq (k k' : Nat) : swN k k' k = k' := by simp [swN]
theorem swN_ne {k k' j : Nat} (h : j ≠ k) : swN k k' j = j := by
  have : Nat.beq j k = false := by rw [← Bool.not_eq_true]; exact fun e => h (Nat.eq_of_beq_eq_true e)
  simp [swN, this]
theorem RepS.sw {w : World} {D : DSet} {β : BMap} {k k' : Nat} {v : Value} {x : SV} (h : RepS w D β v (x.sw k k')) : RepS w D (fun j => β (swN k k' j)) v x := by
  cases x with
  | d x => exact h
  | ref j o => exact h
  | own j t s n => exact h
  | clo f ks =>
    obtain ⟨vs, h1, h2, h3⟩ := h
    exact ⟨vs, h1, by simpa using h2, fun i j hj => h3 i (swN k k' j) (by rw [List.getElem?_map, hj]; rfl)⟩
  | emp => exact h
  | view j o n => exact h
  | hob u b ob => exact h
  | pr j t s n x => exact h
  | junk => trivial
theorem sw_of {k k' : Nat} {x : SV} (h : x.names k = false) : x.sw k k' = x := by
  have key : ∀ j, Nat.beq k j = false → swN k k' j = j := fun j hj => swN_ne (fun e => by subst e; simp at hj)
  cases x with
  | ref j o => simp only [SV.sw]; rw [key j h]
  | own j t s n => simp only [SV.sw]; rw [key j h]
  | view j o n => simp only [SV.sw]; rw [key j h]
  | clo f ks =>
    simp only [SV.sw]
    simp only [SV.names, List.any_eq_false] at h
    have : ks.map (swN k k') = ks := by
      conv => rhs; rw [← List.map_id ks]
      exact List.map_congr_left fun j hj => key j (by rw [← Bool.not_eq_true]; exact h j hj)
    rw [this]
  | d x => rfl
  | emp => rfl
  | hob u b ob => rfl
  | pr j t s n x => simp only [SV.sw]; rw [key j h]
  | junk => rfl
theorem sim_ren {S S' : SL} {B B' : BS} (k k' : Nat) (h1 : S'.map (fun p => sget S p.1) = S'.map (fun p => p.2.sw k k') := by kernel_rfl) (h2 : B'.map (fun p => bget B (swN k k' p.1)) = B'.map (·.2) := by kernel_rfl) (h3 : (B'.all fun p => !(Nat.beq p.1 k')) = true := by kernel_rfl)
    (h4 : Clr k ((k, none) :: B) := by repeat first | exact clr_nil _ | refine clr_self ?_ | refine clr_map ?_ | refine clr_none ?_ | refine clr_bx ?_ | refine clr_d ?_ | refine clr_cons rfl ?_) (h5 : bget B k = none := by kernel_rfl) : SimImp ⟨S, B⟩ ⟨S', B'⟩ := fun C a w ⟨D, β, hs⟩ => by
  have hget : ∀ {l : BS}, (l.map (fun p => bget B (swN k k' p.1)) = l.map (·.2)) → ∀ {j c}, bget l j = some c → bget B (swN k k' j) = some c := by
    intro l
    induction l with
    | nil => intro _ j c h; simp [bget] at h
    | cons p l ih =>
      intro hl j c hj
      obtain ⟨q, y⟩ := p
      simp only [List.map_cons, List.cons.injEq] at hl
      rw [bget_cons] at hj
      split at hj
      · rename_i e; subst e; rw [hl.1]; exact hj
      · exact ih hl.2 hj
  have hkey : ∀ {l : BS}, ((l.all fun p => !(Nat.beq p.1 k')) = true) → ∀ {j c}, bget l j = some c → j ≠ k' := by
    intro l
    induction l with
    | nil => intro _ j c h; simp [bget] at h
    | cons p l ih =>
      intro hl j c hj e
      obtain ⟨q, y⟩ := p
      simp only [List.all_cons, Bool.and_eq_true, Bool.not_eq_true'] at hl
      rw [bget_cons] at hj
      split at hj
      · rename_i e2; subst e2; subst e; simp at hl
      · exact ih hl.2 hj e
  have hnk : ∀ {j c}, bget B j = some c → j ≠ k ∧ namesAny k c = false := fun {j c} hj => by
    have hne : j ≠ k := fun e => by subst e; rw [h5] at hj; cases hj
    exact ⟨hne, h4 j c hne (by rw [bget_cons, if_neg (fun e => hne e.symm)]; exact hj)⟩
  have hsl : ∀ {l : SL}, (l.map (fun p => sget S p.1) = l.map (fun p => p.2.sw k k')) → ∀ t, sget l t = .junk ∨ sget S t = (sget l t).sw k k' := by
    intro l
    induction l with
    | nil => intro _ t; exact .inl rfl
    | cons p l ih =>
      intro hl t
      obtain ⟨q, y⟩ := p
      simp only [List.map_cons, List.cons.injEq] at hl
      rw [sget_cons]
      split
      · rename_i e; subst e; exact .inr hl.1
      · exact ih hl.2 t
  refine ⟨D, fun j => β (swN k k' j), hs.base, ⟨fun j c hj => ?_, fun j1 j2 c1 c2 q1 q2 b e1 e2 => ?_⟩, fun j c hj b hb => hs.high _ c (hget h2 hj) b hb, fun t => ?_⟩
  · have hc := hget h2 hj
    obtain ⟨_, hn⟩ := hnk hc
    rcases hs.mem.ok _ c hc with h | ⟨b, vs, T, g1, g2, g3, g4, g5⟩
    · exact .inl h
    · refine .inr ⟨b, vs, T, g1, g2, g3, fun i x hi => ?_, g5⟩
      obtain ⟨u, e1, e2, e3⟩ := g4 i x hi
      exact ⟨u, e1, e2, RepS.sw (by rw [sw_of (names_get hn hi)]; exact e3)⟩
  · have := hs.mem.inj _ _ c1 c2 (hget h2 q1) (hget h2 q2) b e1 e2
    have n1 := hkey h3 q1
    have n2 := hkey h3 q2
    by_cases g1 : j1 = k <;> by_cases g2 : j2 = k
    · omega
    · subst g1; rw [swN_eq, swN_ne g2] at this; omega
    · subst g2; rw [swN_eq, swN_ne g1] at this; omega
    · rw [swN_ne g1, swN_ne g2] at this; exact this
  · show RepS w D _ _ (sget S' t)
    rcases hsl h1 t with h | h
    · rw [h]; trivial
    · have := hs.slots t
      dsimp only at this
      rw [h] at this
      exact this.sw
end Go.Fid
set_option linter.unusedVariables false
set_option linter.unusedSimpArgs false
namespace Go.Fid
open Go.RowKit (Below)
section
variable {P : Program}
end
section
variable {P : Program} {o : Oper} {S : Nat → SV}
end
section
variable {P : Program}
end
end Go.Fid
set_option linter.unusedVariables false
set_option linter.unusedSimpArgs false
namespace Go.Fid
open Go.RowKit (Below)
section
variable {P : Program} {o : Oper} {S : Nat → SV}
end
end Go.Fid
namespace Go.Proofs.YtihgdjljnaekmaaGreat
open Go.Fid
set_option maxRecDepth 4000
set_option linter.unusedVariables false
set_option linter.unusedSimpArgs false
theorem cb27 : callB Tryz.prog 27 = true := by kernel_rfl
theorem p_eq (l : List Int) (m : List Int) (hb : l.length ≤ 1000000) : Takes Tryz.prog 27 [(.sl 3 1 (List.map enc_i64 l)), (.sl 3 1 (List.map enc_i64 m))] (.val (.bool ((l == m)))) := by
  refine fn_intro Tryz.func27 rfl cb27 rfl ?_
  show PWp _ _ _ _ ⟨[(0, (vl 3 1 enc_i64 l)), (1, (vl 3 1 enc_i64 m))], []⟩
  refine pwp_seq <| kx [] [] (zM <| zZ) ?_
  refine pwp_seq <| pwp_seq <| kx [(10, (vb (((l.length : Nat) : Int) != ((m.length : Nat) : Int))))] [] (zM <| zE (oLm el60) <| zM <| zE (oLm el60) <| zE oNe <| zZ) ?_
  refine pwp_cond rfl (fun h1 => ?_) (fun h1 => ?_)
  · replace h1 := bne_iff_ne.1 h1
    refine pwp_seq <| kx [(4, (vb false))] [] (zM <| zZ) ?_
    refine pwp_ret ⟨_, (.tmp (d := (.val (.bool (false)))) rfl .nil), ?_⟩
    rw [py_eq_len h1]; rfl
  · replace h1 := bne_eq_false_iff_eq.1 h1
    have hlm : l.length = m.length := by omega
    refine pwp_skip <| pwp_seq <| pwp_seq <| kx [(12, (vin l.length)), (13, (vin 0))] [] (zM <| zE (oLm el60) <| zM <| zZ) ?_
    refine pwp_block <| pwp_loop (α := Nat) (fun k => ⟨[(0, (vl 3 1 enc_i64 l)), (1, (vl 3 1 enc_i64 m)), (12, (vin l.length)), (13, (vin k))], []⟩) (fun k => k ≤ l.length ∧ l.take k = m.take k) (fun k => l.length - k) 0 wk ⟨Nat.zero_le _, rfl⟩ ?_
    rintro k ⟨hk, hv⟩
    refine pwp_seq <| kx [(14, (vb (decide (((k : Nat) : Int) < ((l.length : Nat) : Int)))))] [] (zE oLt <| zZ) ?_
    refine pwp_seq <| pwp_cond rfl (fun h2 => ?_) (fun h2 => ?_)
    · replace h2 := of_decide_eq_true h2
      refine pwp_skip <| pwp_seq <| pwp_block <| pwp_seq <| kx [(5, (vin k))] [] (zM <| zM <| zZ) ?_
      refine pwp_seq <| kd [(24, (vb ((l.getD k 0) != (m.getD k 0))))] [] mo (wM <| wM <| wE (oXl el60 k (0 : Int)) <| wE (oC1 sh3) <| wM <| wM <| wE (oXl el60 k (0 : Int)) <| wE (oC1 sh3) <| wE oNe <| wZ) ?_
      refine pwp_cond (b := ((l.getD k 0) != (m.getD k 0))) rfl (fun h3 => ?_) (fun h3 => ?_)
      · replace h3 := bne_iff_ne.1 h3
        refine pwp_seq <| kx [(4, (vb false))] [] (zM <| zZ) ?_
        refine pwp_ret ⟨_, (.tmp (d := (.val (.bool (false)))) rfl .nil), ?_⟩
        rw [py_eq_at h3]; rfl
      · replace h3 := bne_eq_false_iff_eq.1 h3
        refine pwp_skip <| kx [(13, (vin (k + 1)))] [] (zE (oAd (k + 1)) <| zM <| zZ) ?_
        exact ⟨(k + 1), wk, ⟨by omega, py_eq_step hv (by omega) hlm h3⟩, (by omega)⟩
    · replace h2 := of_decide_eq_false h2
      refine pwp_exit <| pwp_seq <| kx [(4, (vb true))] [] (zM <| zZ) ?_
      refine pwp_ret ⟨_, (.tmp (d := (.val (.bool (true)))) rfl .nil), ?_⟩
      rw [py_eq_end hv (by omega) hlm]; rfl
end Go.Proofs.YtihgdjljnaekmaaGreat
set_option linter.unusedVariables false
set_option linter.unusedSimpArgs false
namespace Go.Fid
theorem ne_len {T : List (List Int)} (h : 0 < T.length) : T ≠ [] := fun e => by rw [e] at h; exact absurd h (by decide)
theorem rect_lo {w : Nat} {T : List (List Int)} (h : Rect w T) : Rect ((w + 1) / 2) (T.map loS) := fun r hr => by
  obtain ⟨q, hq, rfl⟩ := List.mem_map.1 hr; rw [loS_len, h q hq]
end Go.Fid
set_option linter.unusedVariables false
set_option linter.unusedSimpArgs false
namespace Go.Fid
end Go.Fid
