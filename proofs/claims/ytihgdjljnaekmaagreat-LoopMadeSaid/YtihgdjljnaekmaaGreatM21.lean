/- Part 21 of a proof: rules, plain facts, and functions walked. -/
import Derived.Test.YtihgdjljnaekmaaGreatM20
import Derived.Test.YtihgdjljnaekmaaGreatM12
import Derived.Test.YtihgdjljnaekmaaGreatM13
import Derived.Test.YtihgdjljnaekmaaGreatM11
import Derived.Test.YtihgdjljnaekmaaGreatM10
set_option linter.unusedVariables false
set_option linter.unusedSimpArgs false
namespace Go.Fid
variable {P : Program}
def intFs (P : Program) : List Field → Nat → Bool
  | [], _ => true
  | f :: l, i => (f.name != "_") && (Nat.beq f.offset i && ((match P.underlying f.type with | some (.int _) => true | _ => false) && intFs P l (i + 1)))
def eqsB (P : Program) (T : TypeId) : Option Nat :=
  match P.underlying T with
  | some (.struct fs) => if intFs P fs.toList 0 && (!P.stoodInHeld T && !P.eqGuardType P.depth T) then some fs.size else none
  | _ => none
theorem cN {t : TypeId} {ms : List Int} {i : Nat} {m : Int} {k j : IntKind} (ht : P.underlying t = some (.int j)) (hi : ms[i]? = some m) (w : World) : (part t (ms.map (Value.int k)).toArray i).run P w = .ok (.int k m) w := by
  have h2 : (ms.map (Value.int k))[i]? = some (.int k m) := by rw [List.getElem?_map, hi]; rfl
  simp [part, fL ht, isAggD, h2]
theorem run_eqInt {t : TypeId} {k j : IntKind} {m n : Int} (ht : P.underlying t = some (.int j)) (d : Nat) (w : World) : (Op.equalIn (d + 1) t (.int k m) (.int k n)).run P w = .ok (m == n) w := by
  simp [Op.equalIn, run_underlying ht]
theorem run_fs (k : IntKind) (d : Nat) (w : World) (ms ns : List Int) : ∀ (l : List Field) (i : Nat), intFs P l i = true → ms.length = i + l.length → ns.length = i + l.length →
    Sem.run P (forIn l ((none, ()) : Option Bool × Unit) fun f _ =>
            if f.name = "_" then pure (ForInStep.yield (none, ()))
            else do
              let a ← part f.type (List.map (Value.int k) ms).toArray f.offset
              let b ← part f.type (List.map (Value.int k) ns).toArray f.offset
              let c ← Op.equalIn (d + 1) f.type a b
              if c = false then pure (ForInStep.done (some false, ())) else pure (ForInStep.yield (none, ()))) w = .ok (if ms.drop i = ns.drop i then (none, ()) else (some false, ())) w
  | [], i, _, h1, h2 => by
    have e1 : ms.drop i = [] := List.drop_eq_nil_of_le (by simp at h1; omega)
    have e2 : ns.drop i = [] := List.drop_eq_nil_of_le (by simp at h2; omega)
    rw [e1, e2]; simp
  | f :: l, i, h, h1, h2 => by
    unfold intFs at h
    simp only [Bool.and_eq_true, bne_iff_ne, ne_eq] at h
    obtain ⟨g1, g2, g3, g4⟩ := h
    have g2 : f.offset = i := Nat.eq_of_beq_eq_true g2
    have hd : ∃ j, P.underlying f.type = some (.int j) := by
      split at g3
      · rename_i j e; exact ⟨j, e⟩
      · cases g3
    obtain ⟨j, hj⟩ := hd
    simp only [List.length_cons] at h1 h2
    have b1 : i < ms.length := by omega
    have b2 : i < ns.length := by omega
    have ih := run_fs k d w ms ns l (i + 1) g4 (by omega) (by omega)
    have e1 := List.drop_eq_getElem_cons b1
    have e2 := List.drop_eq_getElem_cons b2
    simp only [List.forIn_cons, g1, if_false, g2, Sem.run_bind, cN hj (List.getElem?_eq_getElem b1), cN hj (List.getElem?_eq_getElem b2), Result.andThen_ok, run_eqInt hj]
    by_cases he : ms[i] = ns[i]
    · have hx : (ms.drop i = ns.drop i) = (ms.drop (i + 1) = ns.drop (i + 1)) := by
        rw [e1, e2, he]
        exact propext ⟨fun h => (List.cons.inj h).2, fun h => by rw [h]⟩
      simp only [he, beq_self_eq_true, Bool.true_eq_false, if_false, Sem.run_pure, Result.andThen_ok]
      rw [ih]
      simp only [hx]
    · have hx : ¬ ms.drop i = ns.drop i := by
        rw [e1, e2]
        exact fun h => he (List.cons.inj h).1
      have hb : (ms[i] == ns[i]) = false := by simp [he]
      simp only [hb, if_true, Sem.run_pure, Result.andThen_ok, if_neg hx]
theorem run_eqS {T : TypeId} {c : Nat} (h : eqsB P T = some c) (k : IntKind) (ms ns : List Int) (h1 : ms.length = c) (h2 : ns.length = c) (w : World) :
    (Op.equal T (.agg (ms.map (Value.int k)).toArray) (.agg (ns.map (Value.int k)).toArray)).run P w = .ok (decide (ms = ns)) w ∧ P.eqGuardType P.depth T = false := by
  unfold eqsB at h
  split at h
  · rename_i fs hT
    split at h
    · rename_i hq
      simp only [Bool.and_eq_true, Bool.not_eq_true'] at hq
      injection h with h
      refine ⟨?_, hq.2.2⟩
      show (Op.equalIn (9998 + 2) T _ _).run P w = _
      rw [Op.equalIn]
      have hl := run_fs k 9998 w ms ns fs.toList 0 hq.1 (by simp; omega) (by simp; omega)
      rw [Array.forIn_toList] at hl
      simp [run_underlying hT, hq.2.1]
      have hl2 := hl
      simp only [List.drop_zero] at hl2
      rw [hl2]
      by_cases e : ms = ns
      · simp [e]
      · simp [e]
    · cases h
  · cases h
theorem fH {w : World} {D : qB} {v : Value} {k : IntKind} {ms : List Int} (h : uE w D v (.agg (ms.map fun m => .val (.int k m)))) : v = .agg (ms.map (Value.int k)).toArray := by
  obtain ⟨vs, rfl, hl, _, hr⟩ := rep_agg h
  have e : vs = ms.map (Value.int k) := by
    refine List.ext_getElem (by simpa using hl) fun i h1 h2 => ?_
    have hi : i < ms.length := by simpa using h2
    have := qF (hr i vs[i] (.val (.int k ms[i])) (List.getElem?_eq_getElem h1) (by rw [List.getElem?_map, List.getElem?_eq_getElem hi]; rfl))
    rw [this]; simp
  rw [e]
theorem e_eqs {o : Oper} {S : Nat → SV} {T T' : TypeId} {x y : Operand} {k : IntKind} {ms ns : List Int} {c : Nat} (ho : o.op = .binOp .eql T x y T') (hT : eqsB P T = some c) (hx : ev S x = .d (.agg (ms.map fun m => .val (.int k m)))) (hy : ev S y = .d (.agg (ns.map fun m => .val (.int k m)))) (h1 : ms.length = c) (h2 : ns.length = c) : qR P o S [] (.d (.val (.bool (decide (ms = ns))))) :=
  qR.same fun a w D β hop _ => by
    have hx' := hop x (by simp [ho, Op.operands])
    have hy' := hop y (by simp [ho, Op.operands])
    rw [hx] at hx'
    rw [hy] at hy'
    have ex := fH hx'
    have ey := fH hy'
    obtain ⟨g1, g2⟩ := run_eqS hT k ms ns h1 h2 w
    refine ⟨.bool (decide (ms = ns)), ?_, .val _⟩
    simp [execOp, ho, ex, ey, eqGuard, g2, binOp, g1]
theorem oEs {P : Program} {o : Oper} {S : Nat → SV} {T T' : TypeId} {x y : Operand} {c : Nat} (hT : eqsB P T = some c) (k : IntKind) (ms ns : List Int) (ho : o.op = .binOp .eql T x y T' := by exact rfl) (hx : ev S x = .d (.agg (ms.map fun m => .val (.int k m))) := by kernel_rfl) (hy : ev S y = .d (.agg (ns.map fun m => .val (.int k m))) := by kernel_rfl) (h1 : ms.length = c := by exact rfl) (h2 : ns.length = c := by exact rfl) : qR P o S [] (.d (.val (.bool (decide (ms = ns))))) := e_eqs ho hT hx hy h1 h2
end Go.Fid
set_option linter.unusedVariables false
set_option linter.unusedSimpArgs false
namespace Go.Fid
variable {P : Program} {o : Oper} {S : Nat → SV}
end Go.Fid
namespace Go.Proofs.YtihgdjljnaekmaaGreat
open Go.Fid
theorem avo_encQuat (x : jB) : xU 1000000 (jE x) := .agg (vQ (.val _) (vQ (.val _) (vQ (.val _) (vQ (.val _) aI))))
end Go.Proofs.YtihgdjljnaekmaaGreat
namespace Go.Proofs.YtihgdjljnaekmaaGreat
open Go.Fid
set_option maxRecDepth 4000
set_option linter.unusedVariables false
set_option linter.unusedSimpArgs false
theorem fE : arrB Tryz.prog 146 = some (4, 3, 1) := by kernel_rfl
theorem cb37 : callB Tryz.prog 37 = true := by kernel_rfl
theorem cb60 : callB Tryz.prog 60 = true := by kernel_rfl
theorem cb88 : callB Tryz.prog 88 = true := by kernel_rfl
theorem cb103 : callB Tryz.prog 103 = true := by kernel_rfl
theorem uT : uR Tryz.prog 60 = some (3, 1) := by kernel_rfl
theorem eqs28 : eqsB Tryz.prog 28 = some 4 := by kernel_rfl
theorem vJ : yQ Tryz.prog 28 0 = some 0 := by kernel_rfl
theorem vN : yQ Tryz.prog 28 1 = some 1 := by kernel_rfl
theorem vM : yQ Tryz.prog 28 2 = some 2 := by kernel_rfl
theorem vK : yQ Tryz.prog 28 3 = some 3 := by kernel_rfl
theorem cH : aC Tryz.prog 28 = some [(0, 1), (1, 1), (2, 1), (3, 1)] := by kernel_rfl
theorem kK : kV Tryz.prog 28 = some (true, 4) := by kernel_rfl
theorem sh146 : kV Tryz.prog 146 = some (true, 4) := by kernel_rfl
theorem uY : vF Tryz.prog 28 = some [.int .i64 0, .int .i64 0, .int .i64 0, .int .i64 0] := by kernel_rfl
theorem ze146 : vF Tryz.prog 146 = some [.int .i64 0, .int .i64 0, .int .i64 0, .int .i64 0] := by kernel_rfl
theorem uZ : mV [.int .i64 0, .int .i64 0, .int .i64 0, .int .i64 0] [.val (.int .i64 0), .val (.int .i64 0), .val (.int .i64 0), .val (.int .i64 0)] := by simp [mV, Value.oneCell']
theorem zo146 : mV [.int .i64 0, .int .i64 0, .int .i64 0, .int .i64 0] [.val (.int .i64 0), .val (.int .i64 0), .val (.int .i64 0), .val (.int .i64 0)] := by simp [mV, Value.oneCell']
theorem q_parts (a b c d : Int) : jZ Tryz.prog 103 [(jE (jB.mk a b c d))] (zI (A4.mk a b c d)) := by
 refine jL Tryz.func103 rfl cb103 rfl ?_
 show qS _ _ _ _ ⟨[(0, (.d (jE (jB.mk a b c d))))], []⟩
 refine jA <| kx [(1, (.ref 0 0)), (2, (.ref 1 0))] [(0, some (bx (jE (jB.mk a b c d)))), (1, some (bx (zI (A4.mk 0 0 0 0))))] (zN (zL 0) <| zN (uQ 1 ze146 zo146) <| zZ) ?_
 refine jA <| kx [] [(1, some (bx (zI (A4.mk a b c d))))] (zE (kQ vJ) <| zR (kM qA) <| zE (kQ vN) <| zR (kM qA) <| zE (kQ vM) <| zR (kM qA) <| zE (kQ vK) <| zR (kM qA) <| zE (oBf fE ze146 zo146) <| zT (kZ sh146) <| zZ) ?_
 refine jI ⟨_, (kS (cs := (bx (zI (A4.mk a b c d)))) (d := (zI (A4.mk a b c d))) rfl rfl sh146 rfl rfl .nil), ?_⟩
 rfl
theorem qs_list (a b c d : Int) : jZ Tryz.prog 88 [(jE (jB.mk a b c d))] (.sl 3 1 (List.map jP [a, b, c, d])) := by
 refine jL Tryz.func88 rfl cb88 rfl ?_
 show qS _ _ _ _ ⟨[(0, (.d (jE (jB.mk a b c d))))], []⟩
 refine jA <| kx [(1, (.ref 0 0))] [(0, some (bx (jE (jB.mk a b c d))))] (zN (zL 0) <| zE (oNl 3 1) <| zZ) ?_
 refine jA <| kx [(2, (vl 3 1 jP [a, b, c, d]))] [] (zE (kQ vJ) <| zR (kM qA) <| zE (kQ vN) <| zR (kM qA) <| zE (kQ vM) <| zR (kM qA) <| zE (kQ vK) <| zR (kM qA) <| zE (aA uT ze3 zo3) <| zM <| zZ) ?_
 refine jI ⟨_, (.tmp (d := (.sl 3 1 (List.map jP [a, b, c, d]))) rfl .nil), ?_⟩
 rfl
theorem q_chk (a b c d : Int) : jZ Tryz.prog 60 [(jE (jB.mk a b c d))] (.val (.int .i64 ((((yT a b c d) : Nat) : Int)))) := by
 refine jL Tryz.func60 rfl cb60 rfl ?_
 show qS _ _ _ _ ⟨[(0, (.d (jE (jB.mk a b c d))))], []⟩
 refine jA <| kx [(1, (.ref 0 0))] [(0, some (bx (jE (jB.mk a b c d))))] (zN (zL 0) <| zM <| zZ) ?_
 refine jA <| jA <| kx [(7, (vb (decide ([a, b, c, d] = [0, 0, 0, 0]))))] [] (zR (kT kK) <| zE (eQ cH uY uZ) <| zE (oEs eqs28 .i64 [a, b, c, d] [0, 0, 0, 0]) <| zZ) ?_
 refine jG (b := (decide ([a, b, c, d] = [0, 0, 0, 0]))) rfl (fun h1 => ?_) (fun h1 => ?_)
 ·replace h1 := of_decide_eq_true h1
  refine jA <| kx [(2, (jQ 1))] [] (zM <| zZ) ?_
  refine jI ⟨_, (.tmp (d := (.val (.int .i64 (((1 : Nat) : Int))))) rfl .nil), ?_⟩
  rw [rotC_z (by simp_all)]; rfl
 ·replace h1 := of_decide_eq_false h1
  refine jF <| jA <| jA <| kx [(9, (.d (zI (A4.mk a b c d)))), (10, (jQ 0))] [] (zR (kT kK) <| zE (kD (q_parts a b c d)) <| zM <| zZ) ?_
  refine jH <| yN 20 ?_
  refine gI <| jA <| kx [(11, (vb true))] [] (zE (xH true uP) <| zZ) ?_
  refine jA <| qM ?_
  refine jF <| jA <| jH <| jA <| kx [(4, (vi a))] [] (zE (oXa fE qA (fun _ => rfl) 0) <| zM <| zZ) ?_
  refine jA <| kx [(18, (vb (decide (a < -1048576) || decide (((1048576 : Nat) : Int) < a))))] [] ?_ ?_
  ·refine zM <| zE uP <| zE (oV (vb (decide (a < -1048576))) (kP (by kernel_rfl))) <| ?_
   rcases hb2 : (decide (a < -1048576)) with _ | _
   ·replace hb2 := of_decide_eq_false hb2
    exact zM <| zE mZ <| zE nI <| zZ
   ·replace hb2 := of_decide_eq_true hb2
    exact zK <| zK <| zE vR <| zZ
  refine jG rfl (fun h3 => ?_) (fun h3 => ?_)
  ·refine jA <| kx [(2, (jQ 3))] [] (zM <| zZ) ?_
   refine jI ⟨_, (.tmp (d := (.val (.int .i64 (((3 : Nat) : Int))))) rfl .nil), ?_⟩
   first | (rw [eM (by simp_all) (by first | (simp_all; done) | (simp_all; omega))]; rfl) | (rw [dF (by simp_all) (by first | (simp_all; done) | (simp_all; omega))]; rfl)
  ·refine jF <| kx [(10, (jQ 1))] [] (zE (qQ 1 (hr := by decide)) <| zM <| zZ) ?_
   refine kJ (kL.refl _) ?_
   refine jA <| kx [(11, (vb true))] [] (zE (xH true uP) <| zZ) ?_
   refine jA <| qM ?_
   refine jF <| jA <| jH <| jA <| kx [(4, (vi b))] [] (zE (oXa fE qA (fun _ => rfl) 1) <| zM <| zZ) ?_
   refine jA <| kx [(18, (vb (decide (b < -1048576) || decide (((1048576 : Nat) : Int) < b))))] [] ?_ ?_
   ·refine zM <| zE uP <| zE (oV (vb (decide (b < -1048576))) (kP (by kernel_rfl))) <| ?_
    rcases hb4 : (decide (b < -1048576)) with _ | _
    ·replace hb4 := of_decide_eq_false hb4
     exact zM <| zE mZ <| zE nI <| zZ
    ·replace hb4 := of_decide_eq_true hb4
     exact zK <| zK <| zE vR <| zZ
   refine jG rfl (fun h5 => ?_) (fun h5 => ?_)
   ·refine jA <| kx [(2, (jQ 3))] [] (zM <| zZ) ?_
    refine jI ⟨_, (.tmp (d := (.val (.int .i64 (((3 : Nat) : Int))))) rfl .nil), ?_⟩
    first | (rw [eM (by simp_all) (by first | (simp_all; done) | (simp_all; omega))]; rfl) | (rw [dF (by simp_all) (by first | (simp_all; done) | (simp_all; omega))]; rfl)
   ·refine jF <| kx [(10, (jQ 2))] [] (zE (qQ 2 (hr := by decide)) <| zM <| zZ) ?_
    refine kJ (kL.refl _) ?_
    refine jA <| kx [(11, (vb true))] [] (zE (xH true uP) <| zZ) ?_
    refine jA <| qM ?_
    refine jF <| jA <| jH <| jA <| kx [(4, (vi c))] [] (zE (oXa fE qA (fun _ => rfl) 2) <| zM <| zZ) ?_
    refine jA <| kx [(18, (vb (decide (c < -1048576) || decide (((1048576 : Nat) : Int) < c))))] [] ?_ ?_
    ·refine zM <| zE uP <| zE (oV (vb (decide (c < -1048576))) (kP (by kernel_rfl))) <| ?_
     rcases hb6 : (decide (c < -1048576)) with _ | _
     ·replace hb6 := of_decide_eq_false hb6
      exact zM <| zE mZ <| zE nI <| zZ
     ·replace hb6 := of_decide_eq_true hb6
      exact zK <| zK <| zE vR <| zZ
    refine jG rfl (fun h7 => ?_) (fun h7 => ?_)
    ·refine jA <| kY (wk (l := [(9, (.d (zI (A4.mk a b c d)))), (10, (jQ 2)), (18, (vb (decide (c < -1048576) || decide (((1048576 : Nat) : Int) < c))))]) (b := [])) ?_
     refine kx [(2, (jQ 3))] [] (zM <| zZ) ?_
     refine jI ⟨_, (.tmp (d := (.val (.int .i64 (((3 : Nat) : Int))))) rfl .nil), ?_⟩
     first | (rw [eM (by simp_all) (by first | (simp_all; done) | (simp_all; omega))]; rfl) | (rw [dF (by simp_all) (by first | (simp_all; done) | (simp_all; omega))]; rfl)
    ·refine jF <| kY (wk (l := [(9, (.d (zI (A4.mk a b c d)))), (10, (jQ 2)), (18, (vb (decide (c < -1048576) || decide (((1048576 : Nat) : Int) < c))))]) (b := [])) ?_
     refine kx [(10, (jQ 3))] [] (zE (qQ 3 (hr := by decide)) <| zM <| zZ) ?_
     refine kJ (kL.refl _) ?_
     refine jA <| kx [(11, (vb true))] [] (zE (xH true uP) <| zZ) ?_
     refine jA <| qM ?_
     refine jF <| jA <| jH <| jA <| kx [(4, (vi d))] [] (zE (oXa fE qA (fun _ => rfl) 3) <| zM <| zZ) ?_
     refine jA <| kx [(18, (vb (decide (d < -1048576) || decide (((1048576 : Nat) : Int) < d))))] [] ?_ ?_
     ·refine zM <| zE uP <| zE (oV (vb (decide (d < -1048576))) (kP (by kernel_rfl))) <| ?_
      rcases hb8 : (decide (d < -1048576)) with _ | _
      ·replace hb8 := of_decide_eq_false hb8
       exact zM <| zE mZ <| zE nI <| zZ
      ·replace hb8 := of_decide_eq_true hb8
       exact zK <| zK <| zE vR <| zZ
     refine jG rfl (fun h9 => ?_) (fun h9 => ?_)
     ·refine jA <| kx [(2, (jQ 3))] [] (zM <| zZ) ?_
      refine jI ⟨_, (.tmp (d := (.val (.int .i64 (((3 : Nat) : Int))))) rfl .nil), ?_⟩
      first | (rw [eM (by simp_all) (by first | (simp_all; done) | (simp_all; omega))]; rfl) | (rw [dF (by simp_all) (by first | (simp_all; done) | (simp_all; omega))]; rfl)
     ·refine jF <| kx [(10, (jQ 4))] [] (zE (qQ 4 (hr := by decide)) <| zM <| zZ) ?_
      refine kJ (kL.refl _) ?_
      refine jA <| kx [(11, (vb false))] [] (zE (xH false uP) <| zZ) ?_
      refine jA <| qN ?_
      refine jW <| jA <| kx [(2, (jQ 0))] [] (zM <| zZ) ?_
      refine jI ⟨_, (.tmp (d := (.val (.int .i64 (((0 : Nat) : Int))))) rfl .nil), ?_⟩
      first | (rw [eM (by simp_all) (by first | (simp_all; done) | (simp_all; omega))]; rfl) | (rw [dF (by simp_all) (by first | (simp_all; done) | (simp_all; omega))]; rfl)
theorem qs_chk (a b c d : Int) : jZ Tryz.prog 37 [(jE (jB.mk a b c d))] (.val (.int .i64 ((((yT a b c d) : Nat) : Int)))) := by
 refine jL Tryz.func37 rfl cb37 rfl ?_
 show qS _ _ _ _ ⟨[(0, (.d (jE (jB.mk a b c d))))], []⟩
 refine jA <| kx [(1, (.ref 0 0))] [(0, some (bx (jE (jB.mk a b c d))))] (zN (zL 0) <| zM <| zZ) ?_
 refine jA <| jA <| kx [(22, (vb ((((a == ((0 : Nat) : Int)) && (b == ((0 : Nat) : Int))) && (c == ((0 : Nat) : Int))) && (d == ((0 : Nat) : Int)))))] [] ?_ ?_
 ·refine zE (kQ vJ) <| zR (kM qA) <| zE gF <| zE (oV (vb (a == ((0 : Nat) : Int))) (kP (by kernel_rfl))) <| ?_
  rcases hb1 : (a == ((0 : Nat) : Int)) with _ | _
  ·replace hb1 := ne_of_beq_false hb1
   exact zK <| zK <| zK <| zE oPf <| zM <| zK <| zK <| zK <| zE oPf <| zM <| zK <| zK <| zK <| zE oPf <| zZ
  ·replace hb1 := eq_of_beq hb1
   refine zE (kQ vN) <| zR (kM qA) <| zE gF <| zE oPa <| zE (oV (vb (true && (b == ((0 : Nat) : Int)))) (kP (by kernel_rfl))) <| ?_
   rcases hb2 : (true && (b == ((0 : Nat) : Int))) with _ | _
   ·exact zK <| zK <| zK <| zE oPf <| zM <| zK <| zK <| zK <| zE oPf <| zZ
   ·refine zE (kQ vM) <| zR (kM qA) <| zE gF <| zE oPa <| zE (oV (vb (true && (c == ((0 : Nat) : Int)))) (kP (by kernel_rfl))) <| ?_
    rcases hb3 : (true && (c == ((0 : Nat) : Int))) with _ | _
    ·exact zK <| zK <| zK <| zE oPf <| zZ
    ·exact zE (kQ vK) <| zR (kM qA) <| zE gF <| zE oPa <| zZ
 refine jG rfl (fun h4 => ?_) (fun h4 => ?_)
 ·refine jA <| kx [(2, (jQ 1))] [] (zM <| zZ) ?_
  refine jI ⟨_, (.tmp (d := (.val (.int .i64 (((1 : Nat) : Int))))) rfl .nil), ?_⟩
  rw [rotC_z (by simp_all)]; rfl
 ·refine jF <| jA <| kx [(3, (vl 3 1 jP [a, b, c, d]))] [] (zR (kT kK) <| zE (kD (qs_list a b c d)) <| zM <| zZ) ?_
  refine jA <| jA <| kx [(4, (jQ 0))] [] (zM <| zZ) ?_
  refine jH <| yN 20 ?_
  refine gI <| jA <| jA <| kx [(26, (vb true))] [] (zM <| zE (xH true uP) <| zZ) ?_
  refine qM ?_
  refine jF <| jA <| jH <| jA <| kx [(40, (vb (decide (((1048576 : Nat) : Int) < a) || decide (a < -1048576))))] [] ?_ ?_
  ·refine zM <| zM <| zE (oXs uT 0) <| zE (nB qA) <| zE mZ <| zE (oV (vb (decide (((1048576 : Nat) : Int) < a))) (kP (by kernel_rfl))) <| ?_
   rcases hb5 : (decide (((1048576 : Nat) : Int) < a)) with _ | _
   ·replace hb5 := of_decide_eq_false hb5
    exact zM <| zM <| zE (oXs uT 0) <| zE (nB qA) <| zE uP <| zE nI <| zZ
   ·replace hb5 := of_decide_eq_true hb5
    exact zK <| zK <| zK <| zK <| zK <| zE vR <| zZ
  refine jG rfl (fun h6 => ?_) (fun h6 => ?_)
  ·refine jA <| kx [(2, (jQ 3))] [] (zM <| zZ) ?_
   refine jI ⟨_, (.tmp (d := (.val (.int .i64 (((3 : Nat) : Int))))) rfl .nil), ?_⟩
   first | (rw [eM (by simp_all) (by first | (simp_all; done) | (simp_all; omega))]; rfl) | (rw [dF (by simp_all) (by first | (simp_all; done) | (simp_all; omega))]; rfl)
  ·refine jF <| kx [(4, (jQ 1))] [] (zM <| zE (qQ 1 (hr := by decide)) <| zM <| zZ) ?_
   refine kJ (kL.refl _) ?_
   refine jA <| jA <| kx [(26, (vb true))] [] (zM <| zE (xH true uP) <| zZ) ?_
   refine qM ?_
   refine jF <| jA <| jH <| jA <| kx [(40, (vb (decide (((1048576 : Nat) : Int) < b) || decide (b < -1048576))))] [] ?_ ?_
   ·refine zM <| zM <| zE (oXs uT 1) <| zE (nB qA) <| zE mZ <| zE (oV (vb (decide (((1048576 : Nat) : Int) < b))) (kP (by kernel_rfl))) <| ?_
    rcases hb7 : (decide (((1048576 : Nat) : Int) < b)) with _ | _
    ·replace hb7 := of_decide_eq_false hb7
     exact zM <| zM <| zE (oXs uT 1) <| zE (nB qA) <| zE uP <| zE nI <| zZ
    ·replace hb7 := of_decide_eq_true hb7
     exact zK <| zK <| zK <| zK <| zK <| zE vR <| zZ
   refine jG rfl (fun h8 => ?_) (fun h8 => ?_)
   ·refine jA <| kx [(2, (jQ 3))] [] (zM <| zZ) ?_
    refine jI ⟨_, (.tmp (d := (.val (.int .i64 (((3 : Nat) : Int))))) rfl .nil), ?_⟩
    first | (rw [eM (by simp_all) (by first | (simp_all; done) | (simp_all; omega))]; rfl) | (rw [dF (by simp_all) (by first | (simp_all; done) | (simp_all; omega))]; rfl)
   ·refine jF <| kx [(4, (jQ 2))] [] (zM <| zE (qQ 2 (hr := by decide)) <| zM <| zZ) ?_
    refine kJ (kL.refl _) ?_
    refine jA <| jA <| kx [(26, (vb true))] [] (zM <| zE (xH true uP) <| zZ) ?_
    refine qM ?_
    refine jF <| jA <| jH <| jA <| kx [(40, (vb (decide (((1048576 : Nat) : Int) < c) || decide (c < -1048576))))] [] ?_ ?_
    ·refine zM <| zM <| zE (oXs uT 2) <| zE (nB qA) <| zE mZ <| zE (oV (vb (decide (((1048576 : Nat) : Int) < c))) (kP (by kernel_rfl))) <| ?_
     rcases hb9 : (decide (((1048576 : Nat) : Int) < c)) with _ | _
     ·replace hb9 := of_decide_eq_false hb9
      exact zM <| zM <| zE (oXs uT 2) <| zE (nB qA) <| zE uP <| zE nI <| zZ
     ·replace hb9 := of_decide_eq_true hb9
      exact zK <| zK <| zK <| zK <| zK <| zE vR <| zZ
    refine jG rfl (fun h10 => ?_) (fun h10 => ?_)
    ·refine jA <| kx [(2, (jQ 3))] [] (zM <| zZ) ?_
     refine jI ⟨_, (.tmp (d := (.val (.int .i64 (((3 : Nat) : Int))))) rfl .nil), ?_⟩
     first | (rw [eM (by simp_all) (by first | (simp_all; done) | (simp_all; omega))]; rfl) | (rw [dF (by simp_all) (by first | (simp_all; done) | (simp_all; omega))]; rfl)
    ·refine jF <| kx [(4, (jQ 3))] [] (zM <| zE (qQ 3 (hr := by decide)) <| zM <| zZ) ?_
     refine kJ (kL.refl _) ?_
     refine jA <| jA <| kx [(26, (vb true))] [] (zM <| zE (xH true uP) <| zZ) ?_
     refine qM ?_
     refine jF <| jA <| jH <| jA <| kY (wk (l := [(3, (vl 3 1 jP [a, b, c, d])), (4, (jQ 3)), (26, (vb true))]) (b := [])) ?_
     refine kx [(40, (vb (decide (((1048576 : Nat) : Int) < d) || decide (d < -1048576))))] [] ?_ ?_
     ·refine zM <| zM <| zE (oXs uT 3) <| zE (nB qA) <| zE mZ <| zE (oV (vb (decide (((1048576 : Nat) : Int) < d))) (kP (by kernel_rfl))) <| ?_
      rcases hb11 : (decide (((1048576 : Nat) : Int) < d)) with _ | _
      ·replace hb11 := of_decide_eq_false hb11
       exact zM <| zM <| zE (oXs uT 3) <| zE (nB qA) <| zE uP <| zE nI <| zZ
      ·replace hb11 := of_decide_eq_true hb11
       exact zK <| zK <| zK <| zK <| zK <| zE vR <| zZ
     refine jG rfl (fun h12 => ?_) (fun h12 => ?_)
     ·refine jA <| kx [(2, (jQ 3))] [] (zM <| zZ) ?_
      refine jI ⟨_, (.tmp (d := (.val (.int .i64 (((3 : Nat) : Int))))) rfl .nil), ?_⟩
      first | (rw [eM (by simp_all) (by first | (simp_all; done) | (simp_all; omega))]; rfl) | (rw [dF (by simp_all) (by first | (simp_all; done) | (simp_all; omega))]; rfl)
     ·refine jF <| kx [(4, (jQ 4))] [] (zM <| zE (qQ 4 (hr := by decide)) <| zM <| zZ) ?_
      refine kJ (kL.refl _) ?_
      refine jA <| jA <| kx [(26, (vb false))] [] (zM <| zE (xH false uP) <| zZ) ?_
      refine qN ?_
      refine jW <| jA <| kx [(2, (jQ 0))] [] (zM <| zZ) ?_
      refine jI ⟨_, (.tmp (d := (.val (.int .i64 (((0 : Nat) : Int))))) rfl .nil), ?_⟩
      first | (rw [eM (by simp_all) (by first | (simp_all; done) | (simp_all; omega))]; rfl) | (rw [dF (by simp_all) (by first | (simp_all; done) | (simp_all; omega))]; rfl)
end Go.Proofs.YtihgdjljnaekmaaGreat
namespace Go.Proofs.YtihgdjljnaekmaaGreat
open Go.Fid
set_option maxRecDepth 4000
set_option linter.unusedVariables false
set_option linter.unusedSimpArgs false
theorem cb107 : callB Tryz.prog 107 = true := by kernel_rfl
theorem qr_norm (a b c d : Int) (ha : -1048576 ≤ a ∧ a ≤ 1048576) (hb : -1048576 ≤ b ∧ b ≤ 1048576) (hc : -1048576 ≤ c ∧ c ≤ 1048576) (hd : -1048576 ≤ d ∧ d ≤ 1048576) : jZ Tryz.prog 107 [(jE (jB.mk a b c d))] (.val (.int .i64 ((nq a b c d)))) := by
 have saa := xF ha ha
 have sab := xF ha hb
 have sac := xF ha hc
 have sad := xF ha hd
 have sbb := xF hb hb
 have sbc := xF hb hc
 have sbd := xF hb hd
 have scc := xF hc hc
 have scd := xF hc hd
 have sdd := xF hd hd
 refine jL Tryz.func107 rfl cb107 rfl ?_
 show qS _ _ _ _ ⟨[(0, (.d (jE (jB.mk a b c d))))], []⟩
 refine jA <| kx [(1, (.ref 0 0))] [(0, some (bx (jE (jB.mk a b c d))))] (zN (zL 0) <| zM <| zZ) ?_
 refine jA <| kx [(2, (vi ((((a * a) + (b * b)) + (c * c)) + (d * d))))] [] (zE (kQ vJ) <| zR (kM qA) <| zE (kQ vJ) <| zR (kM qA) <| zE (eR (a * a) (hr := by exact (qK rfl (by simp only [xN]; omega) (by simp only [xO]; omega)))) <| zE (kQ vN) <| zR (kM qA) <| zE (kQ vN) <| zR (kM qA) <| zE (eR (b * b) (hr := by exact (qK rfl (by simp only [xN]; omega) (by simp only [xO]; omega)))) <| zE (zAd ((a * a) + (b * b)) (hr := by exact (qK rfl (by simp only [xN]; omega) (by simp only [xO]; omega)))) <| zE (kQ vM) <| zR (kM qA) <| zE (kQ vM) <| zR (kM qA) <| zE (eR (c * c) (hr := by exact (qK rfl (by simp only [xN]; omega) (by simp only [xO]; omega)))) <| zE (zAd (((a * a) + (b * b)) + (c * c)) (hr := by exact (qK rfl (by simp only [xN]; omega) (by simp only [xO]; omega)))) <| zE (kQ vK) <| zR (kM qA) <| zE (kQ vK) <| zR (kM qA) <| zE (eR (d * d) (hr := by exact (qK rfl (by simp only [xN]; omega) (by simp only [xO]; omega)))) <| zE (zAd ((((a * a) + (b * b)) + (c * c)) + (d * d)) (hr := by exact (qK rfl (by simp only [xN]; omega) (by simp only [xO]; omega)))) <| zM <| zZ) ?_
 refine jI ⟨_, (.tmp (d := (.val (.int .i64 (((((a * a) + (b * b)) + (c * c)) + (d * d)))))) rfl .nil), ?_⟩
 rfl
end Go.Proofs.YtihgdjljnaekmaaGreat
set_option linter.unusedVariables false
set_option linter.unusedSimpArgs false
namespace Go.Fid
variable {P : Program} {o : Oper} {S : Nat → SV}
end Go.Fid
set_option linter.unusedVariables false
set_option linter.unusedSimpArgs false
namespace Go.Fid
open Go.RowKit (Below)
theorem names_get {k : Nat} {cs : List SV} (h : uV k cs = false) {i : Nat} {x : SV} (hx : cs[i]? = some x) : x.names k = false := by
  simp only [uV, List.any_eq_false] at h
  simpa using h x (List.mem_of_getElem? hx)
section
variable {P : Program} {o : Oper} {st : PS}
end
section
variable {P : Program} {o : Oper} {S : Nat → SV}
end
end Go.Fid
set_option linter.unusedVariables false
set_option linter.unusedSimpArgs false
namespace Go.Fid
open Go.RowKit (Below)
section
variable {P : Program} {o : Oper} {S : SL}
end
end Go.Fid
set_option linter.unusedVariables false
set_option linter.unusedSimpArgs false
namespace Go.Fid
section
variable {P : Program} {n : Fr} {ops : Array Oper} {K : SL → BS → Prop} {S : SL} {B : BS} {l : List Oper} {o : Oper} {α : Type} {T E t' : TypeId} {x y : Operand} {k s m bytes : Nat} {zv : List Value}
variable {news : List Nat} {acc0 : List (List Nat × List Nat)}
end
end Go.Fid
set_option linter.unusedVariables false
set_option linter.unusedSimpArgs false
namespace Go.Fid
def swN (k k' j : Nat) : Nat := bif Nat.beq j k then k' else j
def SV.sw (k k' : Nat) : SV → SV
  | .ref j o => .ref (swN k k' j) o
  | .own j t s n => .own (swN k k' j) t s n
  | .view j o n => .view (swN k k' j) o n
  | .clo f ks => .clo f (ks.map (swN k k'))
  | .pr j t s n x => .pr (swN k k' j) t s n x
  | x => x
theorem swN_eq (k k' : Nat) : swN k k' k = k' := by simp [swN]
theorem swN_ne {k k' j : Nat} (h : j ≠ k) : swN k k' j = j := by
  have : Nat.beq j k = false := by rw [← Bool.not_eq_true]; exact fun e => h (Nat.eq_of_beq_eq_true e)
  simp [swN, this]
theorem qE.sw {w : World} {D : qB} {β : qH} {k k' : Nat} {v : Value} {x : SV} (h : qE w D β v (x.sw k k')) : qE w D (fun j => β (swN k k' j)) v x := by
  cases x with
  | d x => exact h
  | ref j o => exact h
  | own j t s n => exact h
  | clo f ks =>
    obtain ⟨vs, h1, h2, h3⟩ := h
    exact ⟨vs, h1, by simpa using h2, fun i j hj => h3 i (swN k k' j) (by rw [List.getElem?_map, hj]; rfl)⟩
  | emp => exact h
  | view j o n => exact h
  | hob u b ob => exact h
  | pr j t s n x => exact h
  | junk => trivial
theorem sw_of {k k' : Nat} {x : SV} (h : x.names k = false) : x.sw k k' = x := by
  have key : ∀ j, Nat.beq k j = false → swN k k' j = j := fun j hj => swN_ne (fun e => by subst e; simp at hj)
  cases x with
  | ref j o => simp only [SV.sw]; rw [key j h]
  | own j t s n => simp only [SV.sw]; rw [key j h]
  | view j o n => simp only [SV.sw]; rw [key j h]
  | clo f ks =>
    simp only [SV.sw]
    simp only [SV.names, List.any_eq_false] at h
    have : ks.map (swN k k') = ks := by
      conv => rhs; rw [← List.map_id ks]
      exact List.map_congr_left fun j hj => key j (by rw [← Bool.not_eq_true]; exact h j hj)
    rw [this]
  | d x => rfl
  | emp => rfl
  | hob u b ob => rfl
  | pr j t s n x => simp only [SV.sw]; rw [key j h]
  | junk => rfl
theorem sim_ren {S S' : SL} {B B' : BS} (k k' : Nat) (h1 : S'.map (fun p => kA S p.1) = S'.map (fun p => p.2.sw k k') := by kernel_rfl) (h2 : B'.map (fun p => kI B (swN k k' p.1)) = B'.map (·.2) := by kernel_rfl) (h3 : (B'.all fun p => !(Nat.beq p.1 k')) = true := by kernel_rfl)
    (h4 : Clr k ((k, none) :: B) := by repeat first | exact clr_nil _ | refine clr_self ?_ | refine clr_map ?_ | refine clr_none ?_ | refine clr_bx ?_ | refine clr_d ?_ | refine clr_cons rfl ?_) (h5 : kI B k = none := by kernel_rfl) : kL ⟨S, B⟩ ⟨S', B'⟩ := fun C a w ⟨D, β, hs⟩ => by
  have hget : ∀ {l : BS}, (l.map (fun p => kI B (swN k k' p.1)) = l.map (·.2)) → ∀ {j c}, kI l j = some c → kI B (swN k k' j) = some c := by
    intro l
    induction l with
    | nil => intro _ j c h; simp [kI] at h
    | cons p l ih =>
      intro hl j c hj
      obtain ⟨q, y⟩ := p
      simp only [List.map_cons, List.cons.injEq] at hl
      rw [jT] at hj
      split at hj
      · rename_i e; subst e; rw [hl.1]; exact hj
      · exact ih hl.2 hj
  have hkey : ∀ {l : BS}, ((l.all fun p => !(Nat.beq p.1 k')) = true) → ∀ {j c}, kI l j = some c → j ≠ k' := by
    intro l
    induction l with
    | nil => intro _ j c h; simp [kI] at h
    | cons p l ih =>
      intro hl j c hj e
      obtain ⟨q, y⟩ := p
      simp only [List.all_cons, Bool.and_eq_true, Bool.not_eq_true'] at hl
      rw [jT] at hj
      split at hj
      · rename_i e2; subst e2; subst e; simp at hl
      · exact ih hl.2 hj e
  have hnk : ∀ {j c}, kI B j = some c → j ≠ k ∧ uV k c = false := fun {j c} hj => by
    have hne : j ≠ k := fun e => by subst e; rw [h5] at hj; cases hj
    exact ⟨hne, h4 j c hne (by rw [jT, if_neg (fun e => hne e.symm)]; exact hj)⟩
  have hsl : ∀ {l : SL}, (l.map (fun p => kA S p.1) = l.map (fun p => p.2.sw k k')) → ∀ t, kA l t = .junk ∨ kA S t = (kA l t).sw k k' := by
    intro l
    induction l with
    | nil => intro _ t; exact .inl rfl
    | cons p l ih =>
      intro hl t
      obtain ⟨q, y⟩ := p
      simp only [List.map_cons, List.cons.injEq] at hl
      rw [qI]
      split
      · rename_i e; subst e; exact .inr hl.1
      · exact ih hl.2 t
  refine ⟨D, fun j => β (swN k k' j), hs.base, ⟨fun j c hj => ?_, fun j1 j2 c1 c2 q1 q2 b e1 e2 => ?_⟩, fun j c hj b hb => hs.high _ c (hget h2 hj) b hb, fun t => ?_⟩
  · have hc := hget h2 hj
    obtain ⟨_, hn⟩ := hnk hc
    rcases hs.mem.ok _ c hc with h | ⟨b, vs, T, g1, g2, g3, g4, g5⟩
    · exact .inl h
    · refine .inr ⟨b, vs, T, g1, g2, g3, fun i x hi => ?_, g5⟩
      obtain ⟨u, e1, e2, e3⟩ := g4 i x hi
      exact ⟨u, e1, e2, qE.sw (by rw [sw_of (names_get hn hi)]; exact e3)⟩
  · have := hs.mem.inj _ _ c1 c2 (hget h2 q1) (hget h2 q2) b e1 e2
    have n1 := hkey h3 q1
    have n2 := hkey h3 q2
    by_cases g1 : j1 = k <;> by_cases g2 : j2 = k
    · omega
    · subst g1; rw [swN_eq, swN_ne g2] at this; omega
    · subst g2; rw [swN_eq, swN_ne g1] at this; omega
    · rw [swN_ne g1, swN_ne g2] at this; exact this
  · show qE w D _ _ (kA S' t)
    rcases hsl h1 t with h | h
    · rw [h]; trivial
    · have := hs.slots t
      dsimp only at this
      rw [h] at this
      exact this.sw
end Go.Fid
set_option linter.unusedVariables false
set_option linter.unusedSimpArgs false
namespace Go.Fid
open Go.RowKit (Below)
section
variable {P : Program}
end
section
variable {P : Program} {o : Oper} {S : Nat → SV}
end
section
variable {P : Program}
end
end Go.Fid
set_option linter.unusedVariables false
set_option linter.unusedSimpArgs false
namespace Go.Fid
open Go.RowKit (Below)
section
variable {P : Program} {o : Oper} {S : Nat → SV}
end
end Go.Fid
namespace Go.Proofs.YtihgdjljnaekmaaGreat
open Go.Fid
set_option maxRecDepth 4000
set_option linter.unusedVariables false
set_option linter.unusedSimpArgs false
theorem cb27 : callB Tryz.prog 27 = true := by kernel_rfl
theorem p_eq (l : List Int) (m : List Int) (hb : l.length ≤ 1000000) : jZ Tryz.prog 27 [(.sl 3 1 (List.map jP l)), (.sl 3 1 (List.map jP m))] (.val (.bool ((l == m)))) := by
 refine jL Tryz.func27 rfl cb27 rfl ?_
 show qS _ _ _ _ ⟨[(0, (vl 3 1 jP l)), (1, (vl 3 1 jP m))], []⟩
 refine jA <| kx [] [] (zM <| zZ) ?_
 refine jA <| jA <| kx [(10, (vb (((l.length : Nat) : Int) != ((m.length : Nat) : Int))))] [] (zM <| zE (xA uT) <| zM <| zE (xA uT) <| zE cG <| zZ) ?_
 refine jG rfl (fun h1 => ?_) (fun h1 => ?_)
 ·replace h1 := bne_iff_ne.1 h1
  refine jA <| kx [(4, (vb false))] [] (zM <| zZ) ?_
  refine jI ⟨_, (.tmp (d := (.val (.bool (false)))) rfl .nil), ?_⟩
  rw [py_eq_len h1]; rfl
 ·replace h1 := bne_eq_false_iff_eq.1 h1
  have hlm : l.length = m.length := by omega
  refine jF <| jA <| jA <| kx [(12, (jQ l.length)), (13, (jQ 0))] [] (zM <| zE (xA uT) <| zM <| zZ) ?_
  refine jH <| kH (α := Nat) (fun k => ⟨[(0, (vl 3 1 jP l)), (1, (vl 3 1 jP m)), (12, (jQ l.length)), (13, (jQ k))], []⟩) (fun k => k ≤ l.length ∧ l.take k = m.take k) (fun k => l.length - k) 0 wk ⟨Nat.zero_le _, rfl⟩ ?_
  rintro k ⟨hk, hv⟩
  refine jA <| kx [(14, (vb (decide (((k : Nat) : Int) < ((l.length : Nat) : Int)))))] [] (zE uP <| zZ) ?_
  refine jA <| jG rfl (fun h2 => ?_) (fun h2 => ?_)
  ·replace h2 := of_decide_eq_true h2
   refine jF <| jA <| jH <| jA <| kx [(5, (jQ k))] [] (zM <| zM <| zZ) ?_
   refine jA <| kd [(24, (vb ((l.getD k 0) != (m.getD k 0))))] [] mo (wM <| wM <| wE (yO uT k (0 : Int)) <| wE (nB qA) <| wM <| wM <| wE (yO uT k (0 : Int)) <| wE (nB qA) <| wE cG <| wZ) ?_
   refine jG (b := ((l.getD k 0) != (m.getD k 0))) rfl (fun h3 => ?_) (fun h3 => ?_)
   ·replace h3 := bne_iff_ne.1 h3
    refine jA <| kx [(4, (vb false))] [] (zM <| zZ) ?_
    refine jI ⟨_, (.tmp (d := (.val (.bool (false)))) rfl .nil), ?_⟩
    rw [py_eq_at h3]; rfl
   ·replace h3 := bne_eq_false_iff_eq.1 h3
    refine jF <| kx [(13, (jQ (k + 1)))] [] (zE (qQ (k + 1)) <| zM <| zZ) ?_
    exact ⟨(k + 1), wk, ⟨by omega, py_eq_step hv (by omega) hlm h3⟩, (by omega)⟩
  ·replace h2 := of_decide_eq_false h2
   refine jW <| jA <| kx [(4, (vb true))] [] (zM <| zZ) ?_
   refine jI ⟨_, (.tmp (d := (.val (.bool (true)))) rfl .nil), ?_⟩
   rw [py_eq_end hv (by omega) hlm]; rfl
end Go.Proofs.YtihgdjljnaekmaaGreat
set_option linter.unusedVariables false
set_option linter.unusedSimpArgs false
namespace Go.Fid
theorem ne_len {T : List (List Int)} (h : 0 < T.length) : T ≠ [] := fun e => by rw [e] at h; exact absurd h (by decide)
theorem rect_lo {w : Nat} {T : List (List Int)} (h : Rect w T) : Rect ((w + 1) / 2) (T.map loS) := fun r hr => by
  obtain ⟨q, hq, rfl⟩ := List.mem_map.1 hr; rw [loS_len, h q hq]
end Go.Fid
set_option linter.unusedVariables false
set_option linter.unusedSimpArgs false
namespace Go.Fid
end Go.Fid
set_option linter.unusedVariables false
set_option linter.unusedSimpArgs false
namespace Go.Fid
inductive R2 {α β : Type} (R : α → β → Prop) : List α → List β → Prop where
  | nil : R2 R [] []
  | cons {a : α} {b : β} {l : List α} {m : List β} : R a b → R2 R l m → R2 R (a :: l) (b :: m)
theorem R2.length {α β : Type} {R : α → β → Prop} {l : List α} {m : List β} (h : R2 R l m) : l.length = m.length := by
  induction h with
  | nil => rfl
  | cons _ _ ih => simp [ih]
theorem R2.get {α β : Type} {R : α → β → Prop} {l : List α} {m : List β} (h : R2 R l m) (d : α) (e : β) : ∀ i, i < l.length → R (l.getD i d) (m.getD i e) := by
  induction h with
  | nil => intro i hi; exact absurd hi (Nat.not_lt_zero _)
  | cons h1 _ ih =>
    intro i hi
    cases i with
    | zero => exact h1
    | succ i => simpa using ih i (by simpa using hi)
theorem R2.of {α β : Type} {R : α → β → Prop} (d : α) (e : β) : ∀ {l : List α} {m : List β}, l.length = m.length → (∀ i, i < l.length → R (l.getD i d) (m.getD i e)) → R2 R l m
  | [], [], _, _ => .nil
  | [], _ :: _, h, _ => by simp at h
  | _ :: _, [], h, _ => by simp at h
  | a :: l, b :: m, h, k => .cons (k 0 (by simp)) (R2.of d e (by simpa using h) fun i hi => by simpa using k (i + 1) (by simpa using hi))
theorem R2.map {α β γ δ : Type} {R : α → β → Prop} {S : γ → δ → Prop} {f : α → γ} {g : β → δ} {l : List α} {m : List β} (h : R2 R l m) (hf : ∀ a b, R a b → S (f a) (g b)) : R2 S (l.map f) (m.map g) := by
  induction h with
  | nil => exact .nil
  | cons h1 _ ih => exact .cons (hf _ _ h1) ih
theorem R2.same {α γ δ : Type} {S : γ → δ → Prop} {f : α → γ} {g : α → δ} (l : List α) (h : ∀ a ∈ l, S (f a) (g a)) : R2 S (l.map f) (l.map g) := by
  induction l with
  | nil => exact .nil
  | cons a l ih => exact .cons (h a (.head _)) (ih fun b hb => h b (.tail _ hb))
theorem R2.app {α β : Type} {R : α → β → Prop} {l l' : List α} {m m' : List β} (h : R2 R l m) (h' : R2 R l' m') : R2 R (l ++ l') (m ++ m') := by
  induction h with
  | nil => exact h'
  | cons h1 _ ih => exact .cons h1 ih
theorem R2.flat {α β : Type} {R : α → β → Prop} {T : List (List α)} {U : List (List β)} (h : R2 (R2 R) T U) : R2 R T.flatten U.flatten := by
  induction h with
  | nil => exact .nil
  | cons h1 _ ih => exact h1.app ih
theorem R2.take {α β : Type} {R : α → β → Prop} {l : List α} {m : List β} (h : R2 R l m) : ∀ n, R2 R (l.take n) (m.take n) := by
  induction h with
  | nil => intro n; simp; exact .nil
  | cons h1 _ ih =>
    intro n
    cases n with
    | zero => exact .nil
    | succ n => exact .cons h1 (ih n)
theorem R2.drop {α β : Type} {R : α → β → Prop} {l : List α} {m : List β} (h : R2 R l m) : ∀ n, R2 R (l.drop n) (m.drop n) := by
  induction h with
  | nil => intro n; simp; exact .nil
  | cons h1 h2 ih =>
    intro n
    cases n with
    | zero => exact .cons h1 h2
    | succ n => exact ih n
theorem R2.rows {R : Int → Int → Prop} {l m : List Int} (h : R2 R l m) (w n : Nat) : R2 (R2 R) (rowsOf w n l) (rowsOf w n m) := R2.same _ fun y _ => (h.drop _).take _
theorem R2.lo {R : Int → Int → Prop} (hR : ∀ a b c d, R a b → R c d → R ((a + c).fdiv 2) ((b + d).fdiv 2)) : ∀ {l m : List Int}, R2 R l m → R2 R (loS l) (loS m)
  | [], _, .nil => .nil
  | [_], _, .cons h1 .nil => .cons h1 .nil
  | _ :: _ :: _, _, .cons h1 (.cons h2 h3) => .cons (hR _ _ _ _ h1 h2) (R2.lo hR h3)
theorem R2.hi {R S : Int → Int → Prop} (hR : ∀ a b c d, R a b → R c d → S (a - c) (b - d)) : ∀ {l m : List Int}, R2 R l m → R2 S (hiS l) (hiS m)
  | [], _, .nil => .nil
  | [_], _, .cons h1 .nil => .nil
  | _ :: _ :: _, _, .cons h1 (.cons h2 h3) => .cons (hR _ _ _ _ h1 h2) (R2.hi hR h3)
theorem R2.col {R : Int → Int → Prop} {w j : Nat} (hj : j < w) : ∀ {T U : List (List Int)}, R2 (R2 R) T U → Rect w T → R2 R (T.map fun r => r.getD j 0) (U.map fun r => r.getD j 0)
  | _, _, .nil, _ => .nil
  | _, _, .cons h1 h2, hT => .cons (h1.get 0 0 j (by rw [hT _ (.head _)]; exact hj)) (R2.col hj h2 fun r hr => hT r (.tail _ hr))
theorem R2.tr {R : Int → Int → Prop} {w : Nat} {T U : List (List Int)} (h : R2 (R2 R) T U) (hT : Rect w T) : R2 (R2 R) (Go.Fid.tr w T) (Go.Fid.tr w U) := R2.same _ fun j hj => R2.col (List.mem_range.1 hj) h hT
theorem R2.rect {R : Int → Int → Prop} {w : Nat} : ∀ {T U : List (List Int)}, R2 (R2 R) T U → Rect w T → Rect w U
  | _, _, .nil, _ => fun r hr => by simp at hr
  | _, _, .cons h1 h2, hT => fun r hr => by
    rcases List.mem_cons.1 hr with e | e
    · rw [e, ← h1.length]; exact hT _ (.head _)
    · exact R2.rect h2 (fun r hr => hT r (.tail _ hr)) r e
theorem R2.trP {R : Int → Int → Prop} {w : Nat} {T U : List (List Int)} (h : R2 (R2 R) T U) (hT : Rect w T) : R2 (R2 R) (Go.Fid.trP T) (Go.Fid.trP U) := by
  by_cases h0 : 0 < T.length
  · rw [trP_eq hT (ne_len h0), trP_eq (h.rect hT) (ne_len (by rw [← h.length]; exact h0))]
    exact h.tr hT
  · have e1 := List.eq_nil_of_length_eq_zero (show T.length = 0 by omega)
    have e2 := List.eq_nil_of_length_eq_zero (show U.length = 0 by have := h.length; omega)
    rw [e1, e2]; exact .nil
theorem trP_rect {w : Nat} {T : List (List Int)} (hT : Rect w T) : Rect T.length (Go.Fid.trP T) := by
  by_cases h0 : 0 < T.length
  · rw [trP_eq hT (ne_len h0)]; exact tr_rect _ _
  · rw [List.eq_nil_of_length_eq_zero (show T.length = 0 by omega)]
    intro r hr; simp [Go.Fid.trP, Go.Fid.tr] at hr
theorem R2.low {R : Int → Int → Prop} (hR : ∀ a b c d, R a b → R c d → R ((a + c).fdiv 2) ((b + d).fdiv 2)) {w h : Nat} {px qx : List Int} (hl : px.length = w * h) (hpq : R2 R px qx) : R2 R (bLow w h px) (bLow w h qx) := by
  have r0 := rowsOf_rect hl
  have t0 := hpq.rows w h
  have t1 := t0.map (S := R2 R) (f := loS) (g := loS) fun a b q => q.lo hR
  have r1 := rect_lo r0
  have t2 := t1.trP r1
  have r2 := trP_rect r1
  have t3 := t2.map (S := R2 R) (f := loS) (g := loS) fun a b q => q.lo hR
  have r3 := rect_lo r2
  exact (t3.trP r3).flat
end Go.Fid
set_option linter.unusedVariables false
set_option linter.unusedSimpArgs false
namespace Go.Fid
open Go.RowKit (Below)
section
variable {P : Program} {n : Fr} {ops : Array Oper} {K : SL → BS → Prop} {S S0 S1 : SL} {B B0 B1 : BS} {l : List Oper} {o : Oper} {D : SL}
theorem zOh (k E s : Nat) (r : SK P n ops K ((dO o, .own k E s 0) :: S) ((k, some []) :: B) l) (h : nilK o = true := by kernel_rfl) (g : goK n ops S o = true := by kernel_rfl) (h1 : (S.all fun p => !p.2.names k) = true := by kernel_rfl)
    (h2 : FrB k B := by repeat first | exact frb_nil _ | refine frb_map rfl ?_ | refine frb_d rfl ?_ | refine frb_cs rfl rfl ?_ | refine frb_none rfl ?_) : SK P n ops K S B (o :: l) := zO k E s r h g (freshB_of h1 h2)
end
end Go.Fid
set_option linter.unusedVariables false
set_option linter.unusedSimpArgs false
namespace Go.Fid
section
variable {P : Program} {S : SL} {B : BS} {o : Oper} {x y : Operand} {k : Nat} {T : TypeId}
end
section
variable {P : Program} {o : Oper}
theorem oQd {S : Nat → SV} {z : SV} (d d2 : kE) (h : qR P o S [] z) (e : d = d2) (e0 : z = .d d := by kernel_rfl) : qR P o S [] (.d d2) := e ▸ e0 ▸ h
end
end Go.Fid
set_option linter.unusedVariables false
set_option linter.unusedSimpArgs false
namespace Go.Fid
theorem den_pos (u : Rat) : ((u.den : Nat) : Int) ≠ 0 := by have := u.den_pos; omega
end Go.Fid
