/- Part 32 of a proof: rules, plain facts, and functions walked. -/
import Derived.Test.YtihgdjljnaekmaaGreatM31
import Derived.Test.YtihgdjljnaekmaaGreatM28
set_option linter.unusedVariables false
set_option linter.unusedSimpArgs false
namespace Go.Fid
section
variable {P : Program}
def eqaB (P : Program) (T : TypeId) : Option Nat :=
  match P.underlying T with
  | some (.array n E) => (match P.underlying E, P.info? E with
    | some (.int _), some i => if Nat.beq i.size 1 && !P.eqGuardType P.depth T then some n else none
    | _, _ => none)
  | _ => none
theorem run_as (k : IntKind) {E : TypeId} {j : IntKind} (hE : P.underlying E = some (.int j)) (d : Nat) (w : World) (ms ns : List Int) : ∀ (m i : Nat), ms.length = i + m → ns.length = i + m →
    Sem.run P (forIn (List.range' i m) ((none, ()) : Option Bool × Unit) fun f _ => do
              let a ← part E (List.map (Value.int k) ms).toArray f
              let b ← part E (List.map (Value.int k) ns).toArray f
              let c ← Op.equalIn (d + 1) E a b
              if c = false then pure (ForInStep.done (some false, ())) else pure (ForInStep.yield (none, ()))) w = .ok (if ms.drop i = ns.drop i then (none, ()) else (some false, ())) w
  | 0, i, h1, h2 => by
    have e1 : ms.drop i = [] := List.drop_eq_nil_of_le (by omega)
    have e2 : ns.drop i = [] := List.drop_eq_nil_of_le (by omega)
    rw [e1, e2]; simp
  | m + 1, i, h1, h2 => by
    have b1 : i < ms.length := by omega
    have b2 : i < ns.length := by omega
    have ih := run_as k hE d w ms ns m (i + 1) (by omega) (by omega)
    have e1 := List.drop_eq_getElem_cons b1
    have e2 := List.drop_eq_getElem_cons b2
    simp only [List.range'_succ, List.forIn_cons, Sem.run_bind, cN hE (List.getElem?_eq_getElem b1), cN hE (List.getElem?_eq_getElem b2), Result.andThen_ok, run_eqInt hE]
    by_cases he : ms[i] = ns[i]
    · have hx : (ms.drop i = ns.drop i) = (ms.drop (i + 1) = ns.drop (i + 1)) := by
        rw [e1, e2, he]
        exact propext ⟨fun h => (List.cons.inj h).2, fun h => by rw [h]⟩
      simp only [he, beq_self_eq_true, Bool.true_eq_false, if_false, Sem.run_pure, Result.andThen_ok]
      rw [ih]
      simp only [hx]
    · have hx : ¬ ms.drop i = ns.drop i := by
        rw [e1, e2]
        exact fun h => he (List.cons.inj h).1
      have hb : (ms[i] == ns[i]) = false := by simp [he]
      simp only [hb, if_true, Sem.run_pure, Result.andThen_ok, if_neg hx]
theorem run_eqA {T : TypeId} {c : Nat} (h : eqaB P T = some c) (k : IntKind) (ms ns : List Int) (h1 : ms.length = c) (h2 : ns.length = c) (w : World) :
    (Op.equal T (.agg (ms.map (Value.int k)).toArray) (.agg (ns.map (Value.int k)).toArray)).run P w = .ok (decide (ms = ns)) w ∧ P.eqGuardType P.depth T = false := by
  unfold eqaB at h
  split at h
  · rename_i n E hT
    split at h
    · rename_i j i hE hi
      split at h
      · rename_i hq
        simp only [Bool.and_eq_true, Bool.not_eq_true'] at hq
        injection h with h
        have hsz : i.size = 1 := Nat.eq_of_beq_eq_true hq.1
        refine ⟨?_, hq.2⟩
        show (Op.equalIn (9998 + 2) T _ _).run P w = _
        rw [Op.equalIn]
        have hl := run_as k hE 9998 w ms ns n 0 (by omega) (by omega)
        simp only [List.drop_zero] at hl
        simp [run_underlying hT, uJ hi, hsz]
        rw [hl]
        by_cases e : ms = ns
        · simp [e]
        · simp [e]
      · cases h
    · cases h
  · cases h
section
variable {o : Oper} {S : Nat → SV} {T T' : TypeId} {x y : Operand} {c : Nat}
theorem oNA (hT : eqaB P T = some c) (k : IntKind) (ms ns : List Int) (ho : o.op = .binOp .neq T x y T' := by exact rfl) (hx : ev S x = .d (.agg (ms.map fun m => .val (.int k m))) := by exact rfl) (hy : ev S y = .d (.agg (ns.map fun m => .val (.int k m))) := by exact rfl) (h1 : ms.length = c := by exact rfl) (h2 : ns.length = c := by exact rfl) : qR P o S [] (.d (.val (.bool (!(decide (ms = ns)))))) :=
  qR.same fun a w D β hop _ => by
    have hx' := hop x (by simp [ho, Op.operands])
    have hy' := hop y (by simp [ho, Op.operands])
    rw [hx] at hx'
    rw [hy] at hy'
    have ex := fH hx'
    have ey := fH hy'
    obtain ⟨g1, g2⟩ := run_eqA hT k ms ns h1 h2 w
    refine ⟨.bool (!(decide (ms = ns))), ?_, .val _⟩
    simp [execOp, ho, ex, ey, eqGuard, g2, binOp, g1]
end
end
end Go.Fid
namespace Go.Proofs.YtihgdjljnaekmaaGreat
open Go.Fid
set_option maxRecDepth 4000
set_option linter.unusedVariables false
set_option linter.unusedSimpArgs false
theorem cb23 : callB Tryz.prog 23 = true := by kernel_rfl
theorem cb24 : callB Tryz.prog 24 = true := by kernel_rfl
theorem cb28 : callB Tryz.prog 28 = true := by kernel_rfl
theorem cb43 : callB Tryz.prog 43 = true := by kernel_rfl
theorem cb44 : callB Tryz.prog 44 = true := by kernel_rfl
theorem cb58 : callB Tryz.prog 58 = true := by kernel_rfl
theorem eqa70 : eqaB Tryz.prog 70 = some 3 := by kernel_rfl
theorem sh70 : kV Tryz.prog 70 = some (true, 3) := by kernel_rfl
theorem l_Tree (z : Int) (es : List jC) (hb : es.length ≤ 1000000) : jZ Tryz.prog 23 [(.val (.int .i64 (z))), (.sl 56 6 (List.map jK es))] (.tup [(.sl 3 1 (List.map jP (okL (qO z es) (jO (Int.toNat z) es)))), (.val (.int .i64 ((((qO z es) : Nat) : Int))))]) := by
 refine jL Tryz.func23 rfl cb23 rfl ?_
 show qS _ _ _ _ ⟨[(0, (vi z)), (1, (vl 56 6 jK es))], []⟩
 refine jA <| kx [] [] (zE (oNl 3 1) <| zM <| zZ) ?_
 refine jA <| jA <| kx [(6, (jQ (qO z es)))] [] (zM <| zM <| zE (kD (l_check z es hb)) <| zM <| zZ) ?_
 refine jA <| kx [(11, (vb ((((qO z es) : Nat) : Int) != 0)))] [] (zM <| zE cG <| zZ) ?_
 refine jG (b := ((((qO z es) : Nat) : Int) != 0)) rfl (fun h1 => ?_) (fun h1 => ?_)
 ·replace h1 := bne_iff_ne.1 h1
  refine jA <| kx [(4, (vl 3 1 jP [])), (5, (jQ (qO z es)))] [] (zM <| zE (oNl 3 1) <| zM <| zZ) ?_
  refine jI ⟨_, (.tmp (d := (.sl 3 1 (List.map jP []))) rfl (.tmp (d := (.val (.int .i64 ((((qO z es) : Nat) : Int))))) rfl .nil)), ?_⟩
  rw [okL_n (nM h1)]; rfl
 ·replace h1 := bne_eq_false_iff_eq.1 h1
  have hc0 : qO z es = 0 := by omega
  obtain ⟨hz1, hz2, hl2, heo⟩ := lopC_0 hc0
  refine jF <| jA <| kx [(4, (vl 3 1 jP (jO z.toNat es))), (5, (jQ 0))] [] (zE (oQd (.val (.int .i64 (z))) (.val (.int .i64 (((z.toNat : Nat) : Int)))) (oV (vi z) (kP (by kernel_rfl))) (by exact (congrArg (fun z => kE.val (.int .i64 z)) (by omega)))) <| zM <| zE (kD (l_tree z.toNat es heo (by omega) hl2)) <| zM <| zM <| zZ) ?_
  refine jI ⟨_, (.tmp (d := (.sl 3 1 (List.map jP (jO z.toNat es)))) rfl (.tmp (d := (.val (.int .i64 (0)))) rfl .nil)), ?_⟩
  rw [okL_0 hc0, hc0]; rfl
theorem l_Tris (z : Int) (es : List jC) (hb : es.length ≤ 1000000) : jZ Tryz.prog 24 [(.val (.int .i64 (z))), (.sl 56 6 (List.map jK es))] (.tup [(.sl 70 3 (List.map kU (List.map t3 (okL (qO z es) (jU es))))), (.val (.int .i64 ((((qO z es) : Nat) : Int))))]) := by
 refine jL Tryz.func24 rfl cb24 rfl ?_
 show qS _ _ _ _ ⟨[(0, (vi z)), (1, (vl 56 6 jK es))], []⟩
 refine jA <| kx [] [] (zE (oNl 70 3) <| zM <| zZ) ?_
 refine jA <| jA <| kx [(6, (jQ (qO z es)))] [] (zM <| zM <| zE (kD (l_check z es hb)) <| zM <| zZ) ?_
 refine jA <| kx [(13, (vb ((((qO z es) : Nat) : Int) != 0)))] [] (zM <| zE cG <| zZ) ?_
 refine jG (b := ((((qO z es) : Nat) : Int) != 0)) rfl (fun h1 => ?_) (fun h1 => ?_)
 ·replace h1 := bne_iff_ne.1 h1
  refine jA <| kx [(4, (vl 70 3 kU [])), (5, (jQ (qO z es)))] [] (zM <| zE (oNl 70 3) <| zM <| zZ) ?_
  refine jI ⟨_, (.tmp (d := (.sl 70 3 (List.map kU []))) rfl (.tmp (d := (.val (.int .i64 ((((qO z es) : Nat) : Int))))) rfl .nil)), ?_⟩
  rw [okL_n (nM h1)]; rfl
 ·replace h1 := bne_eq_false_iff_eq.1 h1
  have hc0 : qO z es = 0 := by omega
  obtain ⟨hz1, hz2, hl2, heo⟩ := lopC_0 hc0
  refine jF <| jA <| kx [(7, (vl 70 3 kU (List.map t3 (jU es))))] [] (zM <| zE (kD (l_tris es z.toNat heo (by omega) hl2)) <| zM <| zE qG <| zE qG <| zM <| zM <| zZ) ?_
  refine jA <| kx [(4, (vl 70 3 kU (List.map t3 (jU es)))), (5, (jQ 0))] [] (zM <| zM <| zM <| zZ) ?_
  refine jI ⟨_, (.tmp (d := (.sl 70 3 (List.map kU (List.map t3 (jU es))))) rfl (.tmp (d := (.val (.int .i64 (0)))) rfl .nil)), ?_⟩
  rw [okL_0 hc0, hc0]; rfl
theorem l_Abs (z : Int) (es : List jC) (hb : es.length ≤ 1000000) : jZ Tryz.prog 43 [(.val (.int .i64 (z))), (.sl 56 6 (List.map jK es))] (.tup [(.sl 28 4 (List.map jE (okL (qO z es) (uL (Int.toNat z) es)))), (.val (.int .i64 ((((okC (qO z es) (yH (Int.toNat z) es)) : Nat) : Int))))]) := by
 refine jL Tryz.func43 rfl cb43 rfl ?_
 show qS _ _ _ _ ⟨[(0, (vi z)), (1, (vl 56 6 jK es))], []⟩
 refine jA <| kx [] [] (zE (oNl 28 4) <| zM <| zZ) ?_
 refine jA <| jA <| kx [(6, (jQ (qO z es)))] [] (zM <| zM <| zE (kD (l_check z es hb)) <| zM <| zZ) ?_
 refine jA <| kx [(11, (vb ((((qO z es) : Nat) : Int) != 0)))] [] (zM <| zE cG <| zZ) ?_
 refine jG (b := ((((qO z es) : Nat) : Int) != 0)) rfl (fun h1 => ?_) (fun h1 => ?_)
 ·replace h1 := bne_iff_ne.1 h1
  refine jA <| kx [(4, (vl 28 4 jE [])), (5, (jQ (qO z es)))] [] (zM <| zE (oNl 28 4) <| zM <| zZ) ?_
  refine jI ⟨_, (.tmp (d := (.sl 28 4 (List.map jE []))) rfl (.tmp (d := (.val (.int .i64 ((((qO z es) : Nat) : Int))))) rfl .nil)), ?_⟩
  rw [okL_n (nM h1), okC_n (nM h1)]; rfl
 ·replace h1 := bne_eq_false_iff_eq.1 h1
  have hc0 : qO z es = 0 := by omega
  obtain ⟨hz1, hz2, hl2, heo⟩ := lopC_0 hc0
  refine jF <| jA <| kx [(4, (vl 28 4 jE (uL z.toNat es))), (5, (jQ (yH z.toNat es)))] [] (zE (oQd (.val (.int .i64 (z))) (.val (.int .i64 (((z.toNat : Nat) : Int)))) (oV (vi z) (kP (by kernel_rfl))) (by exact (congrArg (fun z => kE.val (.int .i64 z)) (by omega)))) <| zM <| zE (kD (l_abs z.toNat es heo (by omega) hl2)) <| zE qG <| zE qG <| zM <| zM <| zZ) ?_
  refine jI ⟨_, (.tmp (d := (.sl 28 4 (List.map jE (uL z.toNat es)))) rfl (.tmp (d := (.val (.int .i64 ((((yH z.toNat es) : Nat) : Int))))) rfl .nil)), ?_⟩
  rw [okL_0 hc0, fM hc0]; rfl
theorem l_btw (p : jB) (q : jB) (hp : cQ p) (hq : cQ q) : jZ Tryz.prog 58 [(jE p), (jE q)] (.tup [(jE (qV (kB (qV (uD q)) p))), (.val (.int .i64 ((((qC (kB (qV (uD q)) p)) : Nat) : Int))))]) := by
 refine jL Tryz.func58 rfl cb58 rfl ?_
 show qS _ _ _ _ ⟨[(0, (.d (jE p))), (1, (.d (jE q)))], []⟩
 refine jA <| kx [(2, (.ref 0 0)), (3, (.ref 1 0)), (4, (.ref 2 0))] [(0, some (bx (jE p))), (1, some (bx (jE q))), (2, some (bx (jE (jB.mk 0 0 0 0))))] (zN (zL 0) <| zN (zL 1) <| zN (uQ 2 uY uZ) <| zM <| zZ) ?_
 refine jA <| kx [(6, (.ref 3 0)), (7, (jQ (qC (uD q))))] [(3, some (bx (jE (qV (uD q)))))] (zR (kT kK) <| zE (kD (l_conj q hq)) <| zM <| zE qG <| zE qG <| zN (uQ 3 uY uZ) <| zT (kZ kK) <| zM <| zZ) ?_
 refine jA <| jA <| kx [(14, (vb false))] [] (zM <| zE (xH false cG (by exact bne_eq_false_iff_eq.2 (by rw [show (qC (uD q)) = 0 from (gL hq)]; rfl))) <| zZ) ?_
 refine qN ?_
 refine jF <| jA <| kx [(5, (jQ (qC (kB (qV (uD q)) p))))] [(2, some (bx (jE (qV (kB (qV (uD q)) p)))))] (zR (kT kK) <| zR (kT kK) <| zE (kD (l_mul (qV (uD q)) p (gU (xK hq.1) (gL hq)) hp)) <| zE qG <| zE qG <| zT (kZ kK) <| zM <| zZ) ?_
 refine jI ⟨_, (kS (cs := (bx (jE (qV (kB (qV (uD q)) p))))) (d := (jE (qV (kB (qV (uD q)) p)))) rfl rfl kK rfl rfl (.tmp (d := (.val (.int .i64 ((((qC (kB (qV (uD q)) p)) : Nat) : Int))))) rfl .nil)), ?_⟩
 rfl
theorem l_eqT (l : List (A3 (Int))) (m : List (A3 (Int))) (hb : l.length ≤ 1000000) (hlm : l = m) : jZ Tryz.prog 28 [(.sl 70 3 (List.map kU l)), (.sl 70 3 (List.map kU m))] (.val (.bool (true))) := by
 refine jL Tryz.func28 rfl cb28 rfl ?_
 show qS _ _ _ _ ⟨[(0, (vl 70 3 kU l)), (1, (vl 70 3 kU m))], []⟩
 refine jA <| kx [] [] (zM <| zZ) ?_
 refine jA <| jA <| kx [(10, (vb (((l.length : Nat) : Int) != ((m.length : Nat) : Int))))] [] (zM <| zE (xA el63) <| zM <| zE (xA el63) <| zE cG <| zZ) ?_
 refine jG rfl (fun h1 => ?_) (fun h1 => ?_)
 ·replace h1 := bne_iff_ne.1 h1
  exfalso; subst hlm; exact h1 rfl
 ·replace h1 := bne_eq_false_iff_eq.1 h1
  have hll : m.length = l.length := by rw [hlm]
  refine jF <| jA <| jA <| kx [(12, (jQ l.length)), (13, (jQ 0))] [] (zM <| zE (xA el63) <| zM <| zZ) ?_
  refine jH <| kH (α := Nat) (fun k => ⟨[(0, (vl 70 3 kU l)), (1, (vl 70 3 kU m)), (12, (jQ l.length)), (13, (jQ k))], []⟩) (fun k => k ≤ l.length) (fun k => l.length - k) 0 wk (Nat.zero_le _) ?_
  rintro k hk
  refine jA <| kx [(14, (vb (decide (((k : Nat) : Int) < ((l.length : Nat) : Int)))))] [] (zE uP <| zZ) ?_
  refine jA <| jG rfl (fun h2 => ?_) (fun h2 => ?_)
  ·replace h2 := of_decide_eq_true h2
   refine jF <| jA <| jH <| jA <| kx [(5, (jQ k))] [] (zM <| zM <| zZ) ?_
   refine jA <| kd [(24, (vb (!(decide ([(l.getD k (A3.mk 0 0 0)).a0, (l.getD k (A3.mk 0 0 0)).a1, (l.getD k (A3.mk 0 0 0)).a2] = [(m.getD k (A3.mk 0 0 0)).a0, (m.getD k (A3.mk 0 0 0)).a1, (m.getD k (A3.mk 0 0 0)).a2])))))] [] mo (wM <| wM <| wE (yO el63 k ((A3.mk 0 0 0) : A3 (Int))) <| wE (eN sh70) <| wM <| wM <| wE (yO el63 k ((A3.mk 0 0 0) : A3 (Int))) <| wE (eN sh70) <| wE (oNA eqa70 .i64 [(l.getD k (A3.mk 0 0 0)).a0, (l.getD k (A3.mk 0 0 0)).a1, (l.getD k (A3.mk 0 0 0)).a2] [(m.getD k (A3.mk 0 0 0)).a0, (m.getD k (A3.mk 0 0 0)).a1, (m.getD k (A3.mk 0 0 0)).a2]) <| wZ) ?_
   refine jG rfl (fun h3 => ?_) (fun h3 => ?_)
   ·exfalso; subst hlm; simp at h3
   ·refine jF <| kx [(13, (jQ (k + 1)))] [] (zE (qQ (k + 1)) <| zM <| zZ) ?_
    exact ⟨(k + 1), wk, (by omega), (by omega)⟩
  ·replace h2 := of_decide_eq_false h2
   refine jW <| jA <| kx [(4, (vb true))] [] (zM <| zZ) ?_
   refine jI ⟨_, (.tmp (d := (.val (.bool (true)))) rfl .nil), ?_⟩
   rfl
theorem l_eqQ (l : List jB) (m : List jB) (hb : l.length ≤ 1000000) (hlm : l = m) : jZ Tryz.prog 44 [(.sl 28 4 (List.map jE l)), (.sl 28 4 (List.map jE m))] (.val (.bool (true))) := by
 refine jL Tryz.func44 rfl cb44 rfl ?_
 show qS _ _ _ _ ⟨[(0, (vl 28 4 jE l)), (1, (vl 28 4 jE m))], []⟩
 refine jA <| kx [] [] (zM <| zZ) ?_
 refine jA <| jA <| kx [(10, (vb (((l.length : Nat) : Int) != ((m.length : Nat) : Int))))] [] (zM <| zE (xA gH) <| zM <| zE (xA gH) <| zE cG <| zZ) ?_
 refine jG rfl (fun h1 => ?_) (fun h1 => ?_)
 ·replace h1 := bne_iff_ne.1 h1
  exfalso; subst hlm; exact h1 rfl
 ·replace h1 := bne_eq_false_iff_eq.1 h1
  have hll : m.length = l.length := by rw [hlm]
  refine jF <| jA <| jA <| kx [(12, (jQ l.length)), (13, (jQ 0))] [] (zM <| zE (xA gH) <| zM <| zZ) ?_
  refine jH <| kH (α := Nat) (fun k => ⟨[(0, (vl 28 4 jE l)), (1, (vl 28 4 jE m)), (12, (jQ l.length)), (13, (jQ k))], []⟩) (fun k => k ≤ l.length) (fun k => l.length - k) 0 wk (Nat.zero_le _) ?_
  rintro k hk
  refine jA <| kx [(14, (vb (decide (((k : Nat) : Int) < ((l.length : Nat) : Int)))))] [] (zE uP <| zZ) ?_
  refine jA <| jG rfl (fun h2 => ?_) (fun h2 => ?_)
  ·replace h2 := of_decide_eq_true h2
   refine jF <| jA <| jH <| jA <| kx [(5, (jQ k))] [] (zM <| zM <| zZ) ?_
   refine jA <| kd [(24, (vb (!(decide ([(l.getD k (jB.mk 0 0 0 0)).a, (l.getD k (jB.mk 0 0 0 0)).b, (l.getD k (jB.mk 0 0 0 0)).c, (l.getD k (jB.mk 0 0 0 0)).d] = [(m.getD k (jB.mk 0 0 0 0)).a, (m.getD k (jB.mk 0 0 0 0)).b, (m.getD k (jB.mk 0 0 0 0)).c, (m.getD k (jB.mk 0 0 0 0)).d])))))] [] mo (wM <| wM <| wE (yO gH k (jB.mk 0 0 0 0)) <| wE (eN kK) <| wM <| wM <| wE (yO gH k (jB.mk 0 0 0 0)) <| wE (eN kK) <| wE (oNs eqs28 .i64 [(l.getD k (jB.mk 0 0 0 0)).a, (l.getD k (jB.mk 0 0 0 0)).b, (l.getD k (jB.mk 0 0 0 0)).c, (l.getD k (jB.mk 0 0 0 0)).d] [(m.getD k (jB.mk 0 0 0 0)).a, (m.getD k (jB.mk 0 0 0 0)).b, (m.getD k (jB.mk 0 0 0 0)).c, (m.getD k (jB.mk 0 0 0 0)).d]) <| wZ) ?_
   refine jG rfl (fun h3 => ?_) (fun h3 => ?_)
   ·exfalso; subst hlm; simp at h3
   ·refine jF <| kx [(13, (jQ (k + 1)))] [] (zE (qQ (k + 1)) <| zM <| zZ) ?_
    exact ⟨(k + 1), wk, (by omega), (by omega)⟩
  ·replace h2 := of_decide_eq_false h2
   refine jW <| jA <| kx [(4, (vb true))] [] (zM <| zZ) ?_
   refine jI ⟨_, (.tmp (d := (.val (.bool (true)))) rfl .nil), ?_⟩
   rfl
end Go.Proofs.YtihgdjljnaekmaaGreat
namespace Go.Proofs.YtihgdjljnaekmaaGreat
open Go.Fid
set_option maxRecDepth 4000
set_option linter.unusedVariables false
set_option linter.unusedSimpArgs false
theorem cb16 : callB Tryz.prog 16 = true := by kernel_rfl
theorem l_Con (z : Int) (es : List jC) (hb : es.length ≤ 1000000) : jZ Tryz.prog 16 [(.val (.int .i64 (z))), (.sl 56 6 (List.map jK es))] (.tup [(.val (.bool ((conV z es)))), (.val (.int .i64 ((((eT z es) : Nat) : Int))))]) := by
 refine jL Tryz.func16 rfl cb16 rfl ?_
 show qS _ _ _ _ ⟨[(0, (vi z)), (1, (vl 56 6 jK es))], []⟩
 refine jA <| kx [] [] (zM <| zM <| zZ) ?_
 refine jA <| jA <| kx [(6, (jQ (qO z es)))] [] (zM <| zM <| zE (kD (l_check z es hb)) <| zM <| zZ) ?_
 refine jA <| kx [(18, (vb ((((qO z es) : Nat) : Int) != 0)))] [] (zM <| zE cG <| zZ) ?_
 refine jG (b := ((((qO z es) : Nat) : Int) != 0)) rfl (fun h1 => ?_) (fun h1 => ?_)
 ·replace h1 := bne_iff_ne.1 h1
  refine jA <| kx [(4, (vb false)), (5, (jQ (qO z es)))] [] (zM <| zM <| zM <| zZ) ?_
  refine jI ⟨_, (.tmp (d := (.val (.bool (false)))) rfl (.tmp (d := (.val (.int .i64 ((((qO z es) : Nat) : Int))))) rfl .nil)), ?_⟩
  obtain ⟨q1, q2⟩ := con_n (nM h1)
  rw [q1, q2]; rfl
 ·replace h1 := bne_eq_false_iff_eq.1 h1
  have hc0 : qO z es = 0 := by omega
  obtain ⟨hz1, hz2, hl2, heo⟩ := lopC_0 hc0
  refine jF <| jA <| kx [(7, (vl 28 4 jE (uL z.toNat es))), (8, (jQ (yH z.toNat es)))] [] (zE (oQd (.val (.int .i64 (z))) (.val (.int .i64 (((z.toNat : Nat) : Int)))) (oV (vi z) (kP (by kernel_rfl))) (by exact (congrArg (fun z => kE.val (.int .i64 z)) (by omega)))) <| zM <| zE (kD (l_abs z.toNat es heo (by omega) hl2)) <| zM <| zE qG <| zE qG <| zM <| zM <| zZ) ?_
  refine jA <| jA <| kx [(27, (vb ((((yH z.toNat es) : Nat) : Int) != 0)))] [] (zM <| zE cG <| zZ) ?_
  refine jG (b := ((((yH z.toNat es) : Nat) : Int) != 0)) rfl (fun h2 => ?_) (fun h2 => ?_)
  ·replace h2 := bne_iff_ne.1 h2
   refine jA <| kx [(4, (vb false)), (5, (jQ (yH z.toNat es)))] [] (zM <| zM <| zM <| zZ) ?_
   refine jI ⟨_, (.tmp (d := (.val (.bool (false)))) rfl (.tmp (d := (.val (.int .i64 ((((yH z.toNat es) : Nat) : Int))))) rfl .nil)), ?_⟩
   obtain ⟨q1, q2⟩ := con_0 hc0
   obtain ⟨q3, q4⟩ := cn_1 (nM h2)
   rw [q1, q2, q3, q4]; rfl
  ·replace h2 := bne_eq_false_iff_eq.1 h2
   have hts := abs_ok heo (show yH z.toNat es = 0 by omega)
   refine jF <| jA <| kx [(9, (vb true))] [] (zM <| zZ) ?_
   refine jA <| jA <| kx [(29, (vl 56 6 jK es)), (30, (jQ es.length)), (31, (jQ 0))] [] (zM <| zE (xA gQ) <| zM <| zZ) ?_
   refine jH <| kH (α := Nat × Bool) (fun (k, al) => ⟨[(7, (vl 28 4 jE (uL z.toNat es))), (9, (vb al)), (29, (vl 56 6 jK es)), (30, (jQ es.length)), (31, (jQ k))], []⟩) (fun (k, al) => k ≤ es.length ∧ erUp es (uL z.toNat es) k ∧ al = alS (es.take k) (uL z.toNat es)) (fun (k, al) => es.length - k) (0, true) wk ⟨Nat.zero_le _, erUp_0 _ _, rfl⟩ ?_
   rintro ⟨k, al⟩ ⟨hk, hv, ha⟩
   refine jA <| kx [(32, (vb (decide (((k : Nat) : Int) < ((es.length : Nat) : Int)))))] [] (zE uP <| zZ) ?_
   refine jA <| jG rfl (fun h3 => ?_) (fun h3 => ?_)
   ·replace h3 := of_decide_eq_true h3
    have hek : EOkE z.toNat (es.getD k (jC.mk 0 0 (jB.mk 0 0 0 0))) := mY heo (k := k) (by omega)
    obtain ⟨hek1, hek2, hek3, hek4, hek5, hek6⟩ := id hek
    have htT := hts.at (j := (es.getD k (jC.mk 0 0 (jB.mk 0 0 0 0))).to_.toNat) (by omega)
    have htF := hts.at (j := (es.getD k (jC.mk 0 0 (jB.mk 0 0 0 0))).fr.toNat) (by omega)
    have htl := hts.1
    refine jF <| jA <| jH <| jA <| kx [(11, (.ref 0 0))] [(0, some (bx (jK (es.getD k (jC.mk 0 0 (jB.mk 0 0 0 0))))))] (zE (yO gQ k (jC.mk 0 0 (jB.mk 0 0 0 0))) <| zE (eN hP) <| zN (uQ 0 fK zo56) <| zT (kZ hP) <| zZ) ?_
    refine jA <| kd [(12, (.ref 1 0)), (13, (jQ (qC (kB (qV (uD ((uL z.toNat es).getD (((es.getD k (jC.mk 0 0 (jB.mk 0 0 0 0))).to_).toNat) (jB.mk 0 0 0 0)))) ((uL z.toNat es).getD (((es.getD k (jC.mk 0 0 (jB.mk 0 0 0 0))).fr).toNat) (jB.mk 0 0 0 0))))))] [(1, some (bx (jE (qV (kB (qV (uD ((uL z.toNat es).getD (((es.getD k (jC.mk 0 0 (jB.mk 0 0 0 0))).to_).toNat) (jB.mk 0 0 0 0)))) ((uL z.toNat es).getD (((es.getD k (jC.mk 0 0 (jB.mk 0 0 0 0))).fr).toNat) (jB.mk 0 0 0 0)))))))] mo (wM <| wE (kQ vY) <| wR (kM qA) <| wE (yO gH (((es.getD k (jC.mk 0 0 (jB.mk 0 0 0 0))).fr).toNat) (jB.mk 0 0 0 0) (L := (uL z.toNat es))) <| wE (eN kK) <| wM <| wE (kQ xD) <| wR (kM qA) <| wE (yO gH (((es.getD k (jC.mk 0 0 (jB.mk 0 0 0 0))).to_).toNat) (jB.mk 0 0 0 0) (L := (uL z.toNat es))) <| wE (eN kK) <| wE (kD (l_btw ((uL z.toNat es).getD (((es.getD k (jC.mk 0 0 (jB.mk 0 0 0 0))).fr).toNat) (jB.mk 0 0 0 0)) ((uL z.toNat es).getD (((es.getD k (jC.mk 0 0 (jB.mk 0 0 0 0))).to_).toNat) (jB.mk 0 0 0 0)) htF htT)) <| wM <| wE qG <| wE qG <| wN (uQ 1 uY uZ) <| wT (kZ kK) <| wM <| wZ) ?_
    refine jA <| jA <| kx [(50, (vb ((((qC (kB (qV (uD ((uL z.toNat es).getD (((es.getD k (jC.mk 0 0 (jB.mk 0 0 0 0))).to_).toNat) (jB.mk 0 0 0 0)))) ((uL z.toNat es).getD (((es.getD k (jC.mk 0 0 (jB.mk 0 0 0 0))).fr).toNat) (jB.mk 0 0 0 0)))) : Nat) : Int) != 0)))] [] (zM <| zE cG <| zZ) ?_
    refine jG rfl (fun h4 => ?_) (fun h4 => ?_)
    ·replace h4 := bne_iff_ne.1 h4
     refine jA <| kx [(4, (vb false)), (5, (jQ (qC (kB (qV (uD ((uL z.toNat es).getD (((es.getD k (jC.mk 0 0 (jB.mk 0 0 0 0))).to_).toNat) (jB.mk 0 0 0 0)))) ((uL z.toNat es).getD (((es.getD k (jC.mk 0 0 (jB.mk 0 0 0 0))).fr).toNat) (jB.mk 0 0 0 0))))))] [] (zM <| zM <| zM <| zZ) ?_
     refine jI ⟨_, (.tmp (d := (.val (.bool (false)))) rfl (.tmp (d := (.val (.int .i64 ((((qC (kB (qV (uD ((uL z.toNat es).getD (((es.getD k (jC.mk 0 0 (jB.mk 0 0 0 0))).to_).toNat) (jB.mk 0 0 0 0)))) ((uL z.toNat es).getD (((es.getD k (jC.mk 0 0 (jB.mk 0 0 0 0))).fr).toNat) (jB.mk 0 0 0 0)))) : Nat) : Int))))) rfl .nil)), ?_⟩
     obtain ⟨q1, q2⟩ := con_0 hc0
     obtain ⟨q5, q6, q7⟩ := er_no (es := es) (ts := (uL z.toNat es)) (k := k) (by omega) (nM h4)
     obtain ⟨q3, q4⟩ := cn_2 (n := z.toNat) (es := es) (by omega) (by rw [q6]; decide)
     rw [q1, q2, q3, q4, q6, show qC (kB (qV (uD ((uL z.toNat es).getD (es.getD k (jC.mk 0 0 (jB.mk 0 0 0 0))).to_.toNat (jB.mk 0 0 0 0)))) ((uL z.toNat es).getD (es.getD k (jC.mk 0 0 (jB.mk 0 0 0 0))).fr.toNat (jB.mk 0 0 0 0))) = 3 from q7]; rfl
    ·replace h4 := bne_eq_false_iff_eq.1 h4
     have hqb : cQ (qV (kB (qV (uD ((uL z.toNat es).getD (es.getD k (jC.mk 0 0 (jB.mk 0 0 0 0))).to_.toNat (jB.mk 0 0 0 0)))) ((uL z.toNat es).getD (es.getD k (jC.mk 0 0 (jB.mk 0 0 0 0))).fr.toNat (jB.mk 0 0 0 0)))) := gU (ebt_nz hts heo (k := k) (by omega)) (show qC (kB (qV (uD ((uL z.toNat es).getD (es.getD k (jC.mk 0 0 (jB.mk 0 0 0 0))).to_.toNat (jB.mk 0 0 0 0)))) ((uL z.toNat es).getD (es.getD k (jC.mk 0 0 (jB.mk 0 0 0 0))).fr.toNat (jB.mk 0 0 0 0))) = 0 by omega)
     refine jF <| kx [(9, (vb (al && (eY (qV (kB (qV (uD ((uL z.toNat es).getD (((es.getD k (jC.mk 0 0 (jB.mk 0 0 0 0))).to_).toNat) (jB.mk 0 0 0 0)))) ((uL z.toNat es).getD (((es.getD k (jC.mk 0 0 (jB.mk 0 0 0 0))).fr).toNat) (jB.mk 0 0 0 0)))) ((es.getD k (jC.mk 0 0 (jB.mk 0 0 0 0))).turn)))))] [] ?_ ?_
     ·refine zM <| zE (oV (vb al) (kP (by kernel_rfl))) <| ?_
      rcases hb5 : al with _ | _
      ·exact zK <| zK <| zK <| zK <| zE oPf <| zM <| zZ
      ·exact zR (kT kK) <| zE (kQ fo56_2) <| zR (kT kK) <| zE (kD (l_same (qV (kB (qV (uD ((uL z.toNat es).getD (((es.getD k (jC.mk 0 0 (jB.mk 0 0 0 0))).to_).toNat) (jB.mk 0 0 0 0)))) ((uL z.toNat es).getD (((es.getD k (jC.mk 0 0 (jB.mk 0 0 0 0))).fr).toNat) (jB.mk 0 0 0 0)))) ((es.getD k (jC.mk 0 0 (jB.mk 0 0 0 0))).turn) hqb hek6)) <| zE oPa <| zM <| zZ
     refine kx [(31, (jQ (k + 1)))] [] (zE (qQ (k + 1)) <| zM <| zZ) ?_
     exact ⟨(k + 1, (al && (eY (qV (kB (qV (uD ((uL z.toNat es).getD (es.getD k (jC.mk 0 0 (jB.mk 0 0 0 0))).to_.toNat (jB.mk 0 0 0 0)))) ((uL z.toNat es).getD (es.getD k (jC.mk 0 0 (jB.mk 0 0 0 0))).fr.toNat (jB.mk 0 0 0 0)))) (es.getD k (jC.mk 0 0 (jB.mk 0 0 0 0))).turn))), wk, ⟨by omega, erUp_s hv (show qC (kB (qV (uD ((uL z.toNat es).getD (es.getD k (jC.mk 0 0 (jB.mk 0 0 0 0))).to_.toNat (jB.mk 0 0 0 0)))) ((uL z.toNat es).getD (es.getD k (jC.mk 0 0 (jB.mk 0 0 0 0))).fr.toNat (jB.mk 0 0 0 0))) = 0 by omega), by rw [alS_take (by omega), ← ha]; rfl⟩, (by first | omega | (dsimp only; omega))⟩
   ·replace h3 := of_decide_eq_false h3
    refine jW <| jA <| kx [(4, (vb al)), (5, (jQ 0))] [] (zM <| zM <| zM <| zZ) ?_
    refine jI ⟨_, (.tmp (d := (.val (.bool (al)))) rfl (.tmp (d := (.val (.int .i64 (0)))) rfl .nil)), ?_⟩
    obtain ⟨q1, q2⟩ := con_0 hc0
    obtain ⟨q5, q6, q7⟩ := er_yes (es := es) (ts := (uL z.toNat es)) (k := k) (by omega) hv
    obtain ⟨q3, q4⟩ := cn_3 (n := z.toNat) (es := es) (by omega) q6
    rw [q1, q2, q3, q4, ha, show k = es.length by omega, List.take_length]; rfl
end Go.Proofs.YtihgdjljnaekmaaGreat
namespace Go.Proofs.YtihgdjljnaekmaaGreat
open Go.Fid
set_option maxRecDepth 4000
set_option linter.unusedVariables false
set_option linter.unusedSimpArgs false
theorem cb36 : callB Tryz.prog 36 = true := by kernel_rfl
theorem vbw {b : Int} {v : List Int} {g : Int} (h : VB b v) (hg : g = 1 ∨ g = -1) (hb : b ≤ 100000000) (k : Nat) : IntKind.i64.wrap (v.getD k 0 + g) = v.getD k 0 + g := qK rfl (VB_w h hg hb k).1 (VB_w h hg hb k).2
theorem VB_e {b c : Int} {v : List Int} (h : VB b v) (e : b = c) : VB c v := e ▸ h
theorem l_Sel (z : Int) (es : List jC) (x : uG) (p : Rat) (hx : QOk x p 1000) (hb : es.length ≤ 1000000) : jZ Tryz.prog 36 [(.val (.int .i64 (z))), (.sl 56 6 (List.map jK es)), (kX x)] (.tup [(.sl 3 1 (List.map jP (slV z es x p))), (.val (.int .i64 ((((slC z es x p) : Nat) : Int))))]) := by
 refine jL Tryz.func36 rfl cb36 rfl ?_
 show qS _ _ _ _ ⟨[(0, (vi z)), (1, (vl 56 6 jK es)), (2, (.d (kX x)))], []⟩
 refine jA <| kx [(5, (.ref 0 0))] [(0, some (bx (kX x)))] (zN (zL 0) <| zE (oNl 3 1) <| zM <| zZ) ?_
 refine jA <| jA <| kx [(8, (jQ (qO z es)))] [] (zM <| zM <| zE (kD (l_check z es hb)) <| zM <| zZ) ?_
 refine jA <| kx [(28, (vb ((((qO z es) : Nat) : Int) != ((0 : Nat) : Int))))] [] (zM <| zE cG <| zZ) ?_
 refine jG rfl (fun h1 => ?_) (fun h1 => ?_)
 ·replace h1 := bne_iff_ne.1 h1
  refine jA <| kx [(6, (vl 3 1 jP [])), (7, (jQ (qO z es)))] [] (zM <| zE (oNl 3 1) <| zM <| zZ) ?_
  refine jI ⟨_, (.tmp (d := (.sl 3 1 (List.map jP []))) rfl (.tmp (d := (.val (.int .i64 ((((qO z es) : Nat) : Int))))) rfl .nil)), ?_⟩
  rw [show slV z es x p = [] from okL_n (nM h1), show slC z es x p = qO z es from okC_n (nM h1)]; rfl
 ·replace h1 := bne_eq_false_iff_eq.1 h1
  have hc0 : qO z es = 0 := by omega
  obtain ⟨hz1, hz2, hl2, heo⟩ := lopC_0 hc0
  refine jF <| jA <| jA <| kx [(32, (vb (!(xS x))))] [] (zR (kT vP) <| zE (kD (f_valid x p (eK hx (by decide)))) <| zE oNt <| zZ) ?_
  refine jG (b := !(xS x)) rfl (fun h2 => ?_) (fun h2 => ?_)
  ·refine jA <| kx [(6, (vl 3 1 jP [])), (7, (jQ 1))] [] (zE (oNl 3 1) <| zM <| zZ) ?_
   refine jI ⟨_, (.tmp (d := (.sl 3 1 (List.map jP []))) rfl (.tmp (d := (.val (.int .i64 (((1 : Nat) : Int))))) rfl .nil)), ?_⟩
   obtain ⟨q1, q2⟩ := sld_1 (es := es) (p := p) (bn_t h2)
   rw [show slV z es x p = sldV es x p from okL_0 hc0, show slC z es x p = sldC es x p from fM hc0, q1, q2]; rfl
  ·refine jF <| jA <| jA <| kd [(41, (vb (decide ((signQ p) < ((0 : Nat) : Int)) || decide (((0 : Nat) : Int) < (cmpQ p ((1 : Int) : Rat))))))] [] mo ?_ ?_
   ·refine wR (kT vP) <| wE (kD (f_sign x p (eK hx (by decide)))) <| wE uP <| wE (oV (vb (decide ((signQ p) < ((0 : Nat) : Int)))) (kP (by kernel_rfl))) <| ?_
    rcases hb3 : (decide ((signQ p) < ((0 : Nat) : Int))) with _ | _
    ·replace hb3 := of_decide_eq_false hb3
     exact wR (kT vP) <| wE (kD (f_whole 1 (by decide) (by decide))) <| wE (kD (f_compare x (yP ((1 : Int) : Rat)) p ((1 : Int) : Rat) (eK hx (by decide)) (eK (qok_of (ql_int (z := 1) (lenZ_one (by decide)) (by decide))) (by decide)))) <| wE mZ <| wE nI <| wZ
    ·replace hb3 := of_decide_eq_true hb3
     exact wK <| wK <| wK <| wK <| wE vR <| wZ
   refine jG rfl (fun h4 => ?_) (fun h4 => ?_)
   ·refine jA <| kx [(6, (vl 3 1 jP [])), (7, (jQ 2))] [] (zE (oNl 3 1) <| zM <| zZ) ?_
    refine jI ⟨_, (.tmp (d := (.sl 3 1 (List.map jP []))) rfl (.tmp (d := (.val (.int .i64 (((2 : Nat) : Int))))) rfl .nil)), ?_⟩
    obtain ⟨q1, q2⟩ := sld_2 (es := es) (p := p) (bn_f h2) h4
    rw [show slV z es x p = sldV es x p from okL_0 hc0, show slC z es x p = sldC es x p from fM hc0, q1, q2]; rfl
   ·refine jF <| jA <| kx [(9, (.own 1 3 1 es.length))] [(1, some (bm jP (List.replicate es.length 0)))] (zM <| zE (xA gQ) <| zN (oMk 1 jP (0 : Int) es.length es.length uT ze3 zo3 by3 (hlN := by first | omega | (simp only [List.length_set]; omega)) (hcM := by first | omega | (simp only [List.length_set]; omega)) (hnm := by first | omega | (simp only [List.length_set]; omega)) (hb := by first | omega | (simp only [List.length_set]; omega))) <| zM <| zZ) ?_
    refine jA <| kx [(10, (vl 70 3 kU (List.map t3 (jU es)))), (11, (vl 70 3 kU (List.map (w3 es) (jU es))))] [] (zM <| zE (kD (l_tris es z.toNat heo (by omega) hl2)) <| zM <| zE qG <| zE qG <| zM <| zM <| zZ) ?_
    refine jA <| jA <| kx [(50, (vl 70 3 kU (List.map t3 (jU es)))), (51, (jQ ((jU es).length))), (52, (jQ 0))] [] (zM <| zE (oLn el63 ((jU es).length)) <| zM <| zZ) ?_
    refine jH <| kH (α := Nat × List Int) (fun (m, v) => ⟨[(1, (vl 56 6 jK es)), (5, (.ref 0 0)), (9, (.own 1 3 1 es.length)), (11, (vl 70 3 kU (List.map (w3 es) (jU es)))), (50, (vl 70 3 kU (List.map t3 (jU es)))), (51, (jQ ((jU es).length))), (52, (jQ m))], [(0, some (bx (kX x))), (1, some (bm jP v))]⟩) (fun (m, v) => m ≤ (jU es).length ∧ seUp es m ∧ v = vts p es ((jU es).take m) ∧ VB (3 * ((m : Nat) : Int)) v) (fun (m, v) => (jU es).length - m) (0, List.replicate es.length 0) wk ⟨Nat.zero_le _, seUp_0 _, rfl, VB_e (VB_0 _) rfl⟩ ?_
    rintro ⟨m, v⟩ ⟨hm, hs, hvv, hvb⟩
    have hvl : v.length = es.length := by rw [hvv, vts_len]
    have hml := tris_len hl2
    refine jA <| kx [(53, (vb (decide (((m : Nat) : Int) < (((jU es).length : Nat) : Int)))))] [] (zE uP <| zZ) ?_
    refine jA <| jG rfl (fun h5 => ?_) (fun h5 => ?_)
    ·replace h5 := of_decide_eq_true h5
     have htr := tris_at (es := es) (m := m) (by omega)
     obtain ⟨ht1, ht2, ht3, ht4⟩ := id htr
     refine jF <| jA <| jH <| jA <| kx [(12, (jQ m)), (13, (.ref 2 0))] [(2, some (bx (kU (t3 ((jU es).getD m z3)))))] (zM <| zE (oXm el63 t3 m z3 (hj := by first | omega | (simp only [List.length_set]; omega)) (h1 := by first | omega | (simp only [List.length_set]; omega))) <| zE (eN sh70) <| zH (uQ 2 ze70 zo70) <| zM <| zT (kZ sh70) <| zZ) ?_
     refine jA <| kx [(14, (.ref 3 0))] [(3, some (bx (kU (w3 es ((jU es).getD m z3)))))] (zM <| zM <| zE (oXm el63 (w3 es) m z3 (hj := by first | omega | (simp only [List.length_set]; omega)) (h1 := by first | omega | (simp only [List.length_set]; omega))) <| zE (eN sh70) <| zH (uQ 3 ze70 zo70) <| zT (kZ sh70) <| zZ) ?_
     refine jA <| kx [(15, (.ref 4 0)), (16, (jQ (cY es [((((jU es).getD m z3).1 : Nat) : Int), (dV es ((jU es).getD m z3).1 ((jU es).getD m z3).2.1 ((jU es).getD m z3).2.2).1, (dV es ((jU es).getD m z3).1 ((jU es).getD m z3).2.1 ((jU es).getD m z3).2.2).2])))] [(4, some (bx (jE (aroV es [((((jU es).getD m z3).1 : Nat) : Int), (dV es ((jU es).getD m z3).1 ((jU es).getD m z3).2.1 ((jU es).getD m z3).2.2).1, (dV es ((jU es).getD m z3).1 ((jU es).getD m z3).2.1 ((jU es).getD m z3).2.2).2]))))] (zM <| zE (e_slv (by exact rfl) ar70 (by exact rfl) (by kernel_rfl) (by kernel_rfl)) <| zR ⟨(bx (kU (w3 es ((jU es).getD m z3)))), e_clv (es := List.map jP [((((jU es).getD m z3).1 : Nat) : Int), (dV es ((jU es).getD m z3).1 ((jU es).getD m z3).2.1 ((jU es).getD m z3).2.2).1, (dV es ((jU es).getD m z3).1 ((jU es).getD m z3).2.1 ((jU es).getD m z3).2.2).2]) (l_aro es 1000000 [((((jU es).getD m z3).1 : Nat) : Int), (dV es ((jU es).getD m z3).1 ((jU es).getD m z3).2.1 ((jU es).getD m z3).2.2).1, (dV es ((jU es).getD m z3).1 ((jU es).getD m z3).2.1 ((jU es).getD m z3).2.2).2] hb (show 3 ≤ 1000000 by decide) heo.tok (wt_in htr)) (by exact rfl) (by kernel_rfl) (by exact rfl) (.d (.v .nil)) (yX _ _ (fun _ => rfl)) (by kernel_rfl) (by kernel_rfl) (.tup (vQ (avo_encQuat _) (vQ (.val _) aI))), by kernel_rfl⟩ <| zM <| zE qG <| zE qG <| zH (uQ 4 uY uZ) <| zT (kZ kK) <| zM <| zZ) ?_
     refine jA <| jA <| kx [(68, (vb ((((cY es [((((jU es).getD m z3).1 : Nat) : Int), (dV es ((jU es).getD m z3).1 ((jU es).getD m z3).2.1 ((jU es).getD m z3).2.2).1, (dV es ((jU es).getD m z3).1 ((jU es).getD m z3).2.1 ((jU es).getD m z3).2.2).2]) : Nat) : Int) != ((0 : Nat) : Int))))] [] (zM <| zE cG <| zZ) ?_
     refine jG rfl (fun h6 => ?_) (fun h6 => ?_)
     ·replace h6 := bne_iff_ne.1 h6
      refine jA <| kx [(6, (vl 3 1 jP [])), (7, (jQ (cY es [((((jU es).getD m z3).1 : Nat) : Int), (dV es ((jU es).getD m z3).1 ((jU es).getD m z3).2.1 ((jU es).getD m z3).2.2).1, (dV es ((jU es).getD m z3).1 ((jU es).getD m z3).2.1 ((jU es).getD m z3).2.2).2])))] [] (zM <| zE (oNl 3 1) <| zM <| zZ) ?_
      refine jI ⟨_, (.tmp (d := (.sl 3 1 (List.map jP []))) rfl (.tmp (d := (.val (.int .i64 ((((cY es [((((jU es).getD m z3).1 : Nat) : Int), (dV es ((jU es).getD m z3).1 ((jU es).getD m z3).2.1 ((jU es).getD m z3).2.2).1, (dV es ((jU es).getD m z3).1 ((jU es).getD m z3).2.1 ((jU es).getD m z3).2.2).2]) : Nat) : Int))))) rfl .nil)), ?_⟩
      obtain ⟨q3, q4⟩ := se_no (es := es) (m := m) (by omega) (nM h6)
      obtain ⟨q1, q2⟩ := sld_3 (es := es) (p := p) (bn_f h2) h4 q3
      rw [show slV z es x p = sldV es x p from okL_0 hc0, show slC z es x p = sldC es x p from fM hc0, q1, q2, show cY es [((((jU es).getD m z3).1 : Nat) : Int), (dV es ((jU es).getD m z3).1 ((jU es).getD m z3).2.1 ((jU es).getD m z3).2.2).1, (dV es ((jU es).getD m z3).1 ((jU es).getD m z3).2.1 ((jU es).getD m z3).2.2).2] = 3 from q4]; rfl
     ·replace h6 := bne_eq_false_iff_eq.1 h6
      refine jF <| jA <| kd [(16, (vi 0)), (17, (.ref 5 0))] [(5, some (bx (kX (yP (chQ q1 (aroV es [((((jU es).getD m z3).1 : Nat) : Int), (dV es ((jU es).getD m z3).1 ((jU es).getD m z3).2.1 ((jU es).getD m z3).2.2).1, (dV es ((jU es).getD m z3).1 ((jU es).getD m z3).2.1 ((jU es).getD m z3).2.2).2]))))))] mo (wE (kD l_one) <| wR (kT kK) <| wE (kD (l_chord q1 (aroV es [((((jU es).getD m z3).1 : Nat) : Int), (dV es ((jU es).getD m z3).1 ((jU es).getD m z3).2.1 ((jU es).getD m z3).2.2).1, (dV es ((jU es).getD m z3).1 ((jU es).getD m z3).2.1 ((jU es).getD m z3).2.2).2]) q1_ok (aro_ok heo.tok (wt_in htr) (show cY es [((((jU es).getD m z3).1 : Nat) : Int), (dV es ((jU es).getD m z3).1 ((jU es).getD m z3).2.1 ((jU es).getD m z3).2.2).1, (dV es ((jU es).getD m z3).1 ((jU es).getD m z3).2.1 ((jU es).getD m z3).2.2).2] = 0 by omega)))) <| wM <| wE qG <| wE qG <| wH (hc := by kernel_rfl) (uQ 5 cW dA) <| wT (kZ vP) <| wM <| wZ) ?_
      refine jA <| jA <| kx [(77, (vb false))] [] (zM <| zE (xH false cG) <| zZ) ?_
      refine qN ?_
      refine jF <| jA <| kx [(18, (jQ 1))] [] (zM <| zZ) ?_
      refine pwp_meet (α := Int) (fun g => ⟨[(1, (vl 56 6 jK es)), (5, (.ref 0 0)), (9, (.own 1 3 1 es.length)), (11, (vl 70 3 kU (List.map (w3 es) (jU es)))), (13, (.ref 2 0)), (18, (vi g)), (50, (vl 70 3 kU (List.map t3 (jU es)))), (51, (jQ ((jU es).length))), (52, (jQ m))], [(0, some (bx (kX x))), (1, some (bm jP v)), (2, some (bx (kU (t3 ((jU es).getD m z3)))))]⟩) (fun g => g = gnT p es ((jU es).getD m z3)) ?_ ?_
      ·refine jA <| kx [(82, (vb (decide (((0 : Nat) : Int) < (cmpQ (chQ q1 (aroV es [((((jU es).getD m z3).1 : Nat) : Int), (dV es ((jU es).getD m z3).1 ((jU es).getD m z3).2.1 ((jU es).getD m z3).2.2).1, (dV es ((jU es).getD m z3).1 ((jU es).getD m z3).2.1 ((jU es).getD m z3).2.2).2])) p)))))] [] (zR (kT vP) <| zR (kT vP) <| zE (kD (f_compare (yP (chQ q1 (aroV es [((((jU es).getD m z3).1 : Nat) : Int), (dV es ((jU es).getD m z3).1 ((jU es).getD m z3).2.1 ((jU es).getD m z3).2.2).1, (dV es ((jU es).getD m z3).1 ((jU es).getD m z3).2.1 ((jU es).getD m z3).2.2).2]))) x (chQ q1 (aroV es [((((jU es).getD m z3).1 : Nat) : Int), (dV es ((jU es).getD m z3).1 ((jU es).getD m z3).2.1 ((jU es).getD m z3).2.2).1, (dV es ((jU es).getD m z3).1 ((jU es).getD m z3).2.1 ((jU es).getD m z3).2.2).2])) p (eK (qok_of (ql_chQ q1_ok (aro_ok heo.tok (wt_in htr) (show cY es [((((jU es).getD m z3).1 : Nat) : Int), (dV es ((jU es).getD m z3).1 ((jU es).getD m z3).2.1 ((jU es).getD m z3).2.2).1, (dV es ((jU es).getD m z3).1 ((jU es).getD m z3).2.1 ((jU es).getD m z3).2.2).2] = 0 by omega)))) (by decide)) (eK hx (by decide)))) <| zE mZ <| zZ) ?_
       refine jG rfl (fun h7 => ?_) (fun h7 => ?_)
       ·replace h7 := of_decide_eq_true h7
        refine kx [(18, (vi (-1)))] [] (zM <| zZ) ?_
        exact met (-1) wk ((if_pos h7).symm)
       ·replace h7 := of_decide_eq_false h7
        refine jF ?_
        exact met 1 wk ((if_neg h7).symm)
      ·rintro g hg0
       have hg : g = 1 ∨ g = -1 := by rw [hg0]; exact gnS_01 _ _
       have hb0 := hvb
       have hb1 := VB_s hb0 hg ((jU es).getD m z3).1
       have hb2 := VB_s hb1 hg ((jU es).getD m z3).2.1
       refine jA <| kx [(83, (.d (kU (t3 ((jU es).getD m z3))))), (84, (jQ 0))] [] (zR (kT sh70) <| zM <| zZ) ?_
       refine jH <| yN 4 ?_
       refine gI <| jA <| kx [(85, (vb true))] [] (zE (xH true uP) <| zZ) ?_
       refine jA <| qM ?_
       refine jF <| jA <| jH <| jA <| kx [(20, (jQ (((jU es).getD m z3).1)))] [] (zE (oXa ar70 qA (fun _ => rfl) 0) <| zM <| zZ) ?_
       refine kx [] [(1, some (bm jP (v.set (((jU es).getD m z3).1) ((v.getD (((jU es).getD m z3).1) 0) + g))))] (zM <| zM <| zE (dT uT (((jU es).getD m z3).1) (hj := by first | omega | (simp only [List.length_set]; omega)) (h1 := by first | omega | (simp only [List.length_set]; omega))) <| zR (oLp qA (((jU es).getD m z3).1) (0 : Int) (h1 := by first | omega | (simp only [List.length_set]; omega))) <| zM <| zE (zAd ((v.getD (((jU es).getD m z3).1) 0) + g) (hr := by exact (by first | exact vbw hb0 hg (by omega) _ | exact vbw hb1 hg (by omega) _ | exact vbw hb2 hg (by omega) _))) <| zE (dT uT (((jU es).getD m z3).1) (hj := by first | omega | (simp only [List.length_set]; omega)) (h1 := by first | omega | (simp only [List.length_set]; omega))) <| zT (oSp qA (((jU es).getD m z3).1) ((v.getD (((jU es).getD m z3).1) 0) + g) (h1 := by first | omega | (simp only [List.length_set]; omega))) <| zZ) ?_
       refine kx [(84, (jQ 1))] [] (zE (qQ 1 (hr := by decide)) <| zM <| zZ) ?_
       refine kJ (kL.refl _) ?_
       refine jA <| kx [(85, (vb true))] [] (zE (xH true uP) <| zZ) ?_
       refine jA <| qM ?_
       refine jF <| jA <| jH <| jA <| kx [(20, (jQ (((jU es).getD m z3).2.1)))] [] (zE (oXa ar70 qA (fun _ => rfl) 1) <| zM <| zZ) ?_
       refine kx [] [(1, some (bm jP ((v.set (((jU es).getD m z3).1) ((v.getD (((jU es).getD m z3).1) 0) + g)).set (((jU es).getD m z3).2.1) (((v.set (((jU es).getD m z3).1) ((v.getD (((jU es).getD m z3).1) 0) + g)).getD (((jU es).getD m z3).2.1) 0) + g))))] (zM <| zM <| zE (dT uT (((jU es).getD m z3).2.1) (hj := by first | omega | (simp only [List.length_set]; omega)) (h1 := by first | omega | (simp only [List.length_set]; omega))) <| zR (oLp qA (((jU es).getD m z3).2.1) (0 : Int) (h1 := by first | omega | (simp only [List.length_set]; omega))) <| zM <| zE (zAd (((v.set (((jU es).getD m z3).1) ((v.getD (((jU es).getD m z3).1) 0) + g)).getD (((jU es).getD m z3).2.1) 0) + g) (hr := by exact (by first | exact vbw hb0 hg (by omega) _ | exact vbw hb1 hg (by omega) _ | exact vbw hb2 hg (by omega) _))) <| zE (dT uT (((jU es).getD m z3).2.1) (hj := by first | omega | (simp only [List.length_set]; omega)) (h1 := by first | omega | (simp only [List.length_set]; omega))) <| zT (oSp qA (((jU es).getD m z3).2.1) (((v.set (((jU es).getD m z3).1) ((v.getD (((jU es).getD m z3).1) 0) + g)).getD (((jU es).getD m z3).2.1) 0) + g) (h1 := by first | omega | (simp only [List.length_set]; omega))) <| zZ) ?_
       refine kx [(84, (jQ 2))] [] (zE (qQ 2 (hr := by decide)) <| zM <| zZ) ?_
       refine kJ (kL.refl _) ?_
       refine jA <| kx [(85, (vb true))] [] (zE (xH true uP) <| zZ) ?_
       refine jA <| qM ?_
       refine jF <| jA <| jH <| jA <| kx [(20, (jQ (((jU es).getD m z3).2.2)))] [] (zE (oXa ar70 qA (fun _ => rfl) 2) <| zM <| zZ) ?_
       refine kx [] [(1, some (bm jP (((v.set (((jU es).getD m z3).1) ((v.getD (((jU es).getD m z3).1) 0) + g)).set (((jU es).getD m z3).2.1) (((v.set (((jU es).getD m z3).1) ((v.getD (((jU es).getD m z3).1) 0) + g)).getD (((jU es).getD m z3).2.1) 0) + g)).set (((jU es).getD m z3).2.2) ((((v.set (((jU es).getD m z3).1) ((v.getD (((jU es).getD m z3).1) 0) + g)).set (((jU es).getD m z3).2.1) (((v.set (((jU es).getD m z3).1) ((v.getD (((jU es).getD m z3).1) 0) + g)).getD (((jU es).getD m z3).2.1) 0) + g)).getD (((jU es).getD m z3).2.2) 0) + g))))] (zM <| zM <| zE (dT uT (((jU es).getD m z3).2.2) (hj := by first | omega | (simp only [List.length_set]; omega)) (h1 := by first | omega | (simp only [List.length_set]; omega))) <| zR (oLp qA (((jU es).getD m z3).2.2) (0 : Int) (h1 := by first | omega | (simp only [List.length_set]; omega))) <| zM <| zE (zAd ((((v.set (((jU es).getD m z3).1) ((v.getD (((jU es).getD m z3).1) 0) + g)).set (((jU es).getD m z3).2.1) (((v.set (((jU es).getD m z3).1) ((v.getD (((jU es).getD m z3).1) 0) + g)).getD (((jU es).getD m z3).2.1) 0) + g)).getD (((jU es).getD m z3).2.2) 0) + g) (hr := by exact (by first | exact vbw hb0 hg (by omega) _ | exact vbw hb1 hg (by omega) _ | exact vbw hb2 hg (by omega) _))) <| zE (dT uT (((jU es).getD m z3).2.2) (hj := by first | omega | (simp only [List.length_set]; omega)) (h1 := by first | omega | (simp only [List.length_set]; omega))) <| zT (oSp qA (((jU es).getD m z3).2.2) ((((v.set (((jU es).getD m z3).1) ((v.getD (((jU es).getD m z3).1) 0) + g)).set (((jU es).getD m z3).2.1) (((v.set (((jU es).getD m z3).1) ((v.getD (((jU es).getD m z3).1) 0) + g)).getD (((jU es).getD m z3).2.1) 0) + g)).getD (((jU es).getD m z3).2.2) 0) + g) (h1 := by first | omega | (simp only [List.length_set]; omega))) <| zZ) ?_
       refine kx [(84, (jQ 3))] [] (zE (qQ 3 (hr := by decide)) <| zM <| zZ) ?_
       refine kJ (kL.refl _) ?_
       refine jA <| kx [(85, (vb false))] [] (zE (xH false uP) <| zZ) ?_
       refine jA <| qN ?_
       refine jW <| kY (wk (l := [(1, (vl 56 6 jK es)), (5, (.ref 0 0)), (9, (.own 1 3 1 es.length)), (11, (vl 70 3 kU (List.map (w3 es) (jU es)))), (18, (vi g)), (50, (vl 70 3 kU (List.map t3 (jU es)))), (51, (jQ ((jU es).length))), (52, (jQ m)), (83, (.d (kU (t3 ((jU es).getD m z3))))), (84, (jQ 3)), (85, (vb false))]) (b := [(0, some (bx (kX x))), (1, some (bm jP (((v.set (((jU es).getD m z3).1) ((v.getD (((jU es).getD m z3).1) 0) + g)).set (((jU es).getD m z3).2.1) (((v.set (((jU es).getD m z3).1) ((v.getD (((jU es).getD m z3).1) 0) + g)).getD (((jU es).getD m z3).2.1) 0) + g)).set (((jU es).getD m z3).2.2) ((((v.set (((jU es).getD m z3).1) ((v.getD (((jU es).getD m z3).1) 0) + g)).set (((jU es).getD m z3).2.1) (((v.set (((jU es).getD m z3).1) ((v.getD (((jU es).getD m z3).1) 0) + g)).getD (((jU es).getD m z3).2.1) 0) + g)).getD (((jU es).getD m z3).2.2) 0) + g))))])) ?_
       refine kx [(52, (jQ (m + 1)))] [] (zE (qQ (m + 1)) <| zM <| zZ) ?_
       exact ⟨(m + 1, (vT v ((jU es).getD m z3) g)), wk, ⟨by omega, seUp_s hs (show cY es [((((jU es).getD m z3).1 : Nat) : Int), (dV es ((jU es).getD m z3).1 ((jU es).getD m z3).2.1 ((jU es).getD m z3).2.2).1, (dV es ((jU es).getD m z3).1 ((jU es).getD m z3).2.1 ((jU es).getD m z3).2.2).2] = 0 by omega), by rw [vts_s (by omega), ← hvv, show gnT p es ((jU es).getD m z3) = g from hg0.symm], VB_e (VB_s hb2 hg ((jU es).getD m z3).2.2) (by omega)⟩, (by first | omega | (dsimp only; omega))⟩
    ·replace h5 := of_decide_eq_false h5
     refine jW <| jA <| kx [(21, (.own 6 3 1 0))] [(6, some (bm jP []))] (zOh 6 3 1 <| zZ) ?_
     refine jA <| jA <| kx [(96, (.own 1 3 1 es.length)), (97, (jQ es.length)), (98, (jQ 0))] [] (zM <| zE (oLo uT) <| zM <| zZ) ?_
     refine jH <| kH (α := Nat × List Int) (fun (i, o) => ⟨[(21, (.own 6 3 1 o.length)), (96, (.own 1 3 1 es.length)), (97, (jQ es.length)), (98, (jQ i))], [(1, some (bm jP v)), (6, some (bm jP o))]⟩) (fun (i, o) => i ≤ es.length ∧ o = selU v i) (fun (i, o) => es.length - i) (0, []) wk ⟨Nat.zero_le _, rfl⟩ ?_
     rintro ⟨i, o⟩ ⟨hi, ho⟩
     have hol : o.length ≤ i := by rw [ho]; exact selU_len _ _
     refine jA <| kx [(99, (vb (decide (((i : Nat) : Int) < ((es.length : Nat) : Int)))))] [] (zE uP <| zZ) ?_
     refine jA <| jG rfl (fun h8 => ?_) (fun h8 => ?_)
     ·replace h8 := of_decide_eq_true h8
      refine jF <| jA <| jH <| jA <| kx [(22, (jQ i)), (23, (vi (v.getD i 0)))] [] (zM <| zE (dT uT i (hj := by first | omega | (simp only [List.length_set]; omega)) (h1 := by first | omega | (simp only [List.length_set]; omega))) <| zR (oLp qA i (0 : Int) (h1 := by first | omega | (simp only [List.length_set]; omega))) <| zM <| zM <| zZ) ?_
      refine jA <| kx [(104, (vb (decide (((0 : Nat) : Int) ≤ (v.getD i 0)))))] [] (zM <| zE oGe <| zZ) ?_
      refine jG rfl (fun h9 => ?_) (fun h9 => ?_)
      ·replace h9 := of_decide_eq_true h9
       refine kf [(21, (.own 6 3 1 ((o ++ [((i : Nat) : Int)]).length)))] [(6, some (bm jP (o ++ [((i : Nat) : Int)])))] (zM <| zM <| zE (aA uT ze3 zo3) <| zA jP o [((i : Nat) : Int)] rfl uT ze3 by3 <| zM <| zF) ?_
       refine kx [(98, (jQ (i + 1)))] [] (zE (qQ (i + 1)) <| zM <| zZ) ?_
       exact ⟨(i + 1, o ++ [((i : Nat) : Int)]), wk, ⟨by omega, by rw [selU_y h9, ho]⟩, (by first | omega | (dsimp only; omega))⟩
      ·replace h9 := of_decide_eq_false h9
       refine jF <| kx [(98, (jQ (i + 1)))] [] (zE (qQ (i + 1)) <| zM <| zZ) ?_
       exact ⟨(i + 1, o), wk, ⟨by omega, by rw [selU_n h9, ho]⟩, (by first | omega | (dsimp only; omega))⟩
     ·replace h8 := of_decide_eq_false h8
      refine jW <| jA <| kY (vV (t := 21) (k := 6) (es := List.map jP o) rfl rfl (uO _ _ (fun _ => rfl)) (uS _ _ rfl) (vE _ _ (fun _ => rfl) rfl)) ?_
      refine kx [(6, (vl 3 1 jP o)), (7, (jQ 0))] [] (zM <| zM <| zM <| zZ) ?_
      refine jI ⟨_, (.tmp (d := (.sl 3 1 (List.map jP o))) rfl (.tmp (d := (.val (.int .i64 (((0 : Nat) : Int))))) rfl .nil)), ?_⟩
      have hse : seC es = 0 := se_yes (by omega) hs
      have hfin : selL (vts p es (jU es)) = o := by rw [ho, hvv, show m = (jU es).length by omega, List.take_length, show i = es.length by omega]; unfold selL; rw [vts_len]
      obtain ⟨q1, q2⟩ := sld_0 (es := es) (p := p) (bn_f h2) h4 hse
      rw [show slV z es x p = sldV es x p from okL_0 hc0, show slC z es x p = sldC es x p from fM hc0, q1, q2, hfin]; rfl
end Go.Proofs.YtihgdjljnaekmaaGreat
