/- Part 21 of a proof: rules, plain facts, and functions walked. -/
import Derived.Test.YtiooafhcpkdhcaaGreatDoorM20
import Derived.Test.YtiooafhcpkdhcaaGreatDoorM12
import Derived.Test.YtiooafhcpkdhcaaGreatDoorM10
namespace Go.Proofs.YtiooafhcpkdhcaaGreatDoor
open Go.Fid
set_option maxRecDepth 4000
set_option linter.unusedVariables false
set_option linter.unusedSimpArgs false
theorem cb17 : callB Tryz.prog 17 = true := by kernel_rfl
theorem cb35 : callB Tryz.prog 35 = true := by kernel_rfl
theorem cb45 : callB Tryz.prog 45 = true := by kernel_rfl
theorem g_zero (x : RRat) (p : Rat) (hx : QOk x p 140737488355328) : Takes Tryz.prog 35 [(encR x)] (.val (.bool ((zeroR x)))) := by
  have h1 := hx.n1
  have h2 := hx.n2
  refine fn_intro Tryz.func35 rfl cb35 rfl ?_
  show PWp _ _ _ _ ⟨[(0, (.d (encR x)))], []⟩
  refine pwp_seq <| kx [(1, (.ref 0 0))] [(0, some (bx (encR x)))] (zN (oBx 0) <| zM <| zZ) ?_
  refine pwp_seq <| kx [(2, (vb (((!x.num.neg && !x.den.neg) && (((x.num.gs.length : Nat) : Int) == 0)) && (((x.den.gs.length : Nat) : Int) == 0))))] [] ?_ ?_
  · refine zE (oFr fo26_0) <| zE (oFr fo24_0) <| zR (oL1 sh4) <| zE oNt <| zE (oV (vb (!x.num.neg)) (mv_ok (by kernel_rfl))) <| ?_
    rcases hb1 : (!x.num.neg) with _ | _
    · exact zK <| zK <| zK <| zK <| zE oPf <| zM <| zK <| zK <| zK <| zK <| zK <| zE oPf <| zM <| zK <| zK <| zK <| zK <| zK <| zE oPf <| zM <| zZ
    · refine zE (oFr fo26_1) <| zE (oFr fo24_0) <| zR (oL1 sh4) <| zE oNt <| zE oPa <| zE (oV (vb (true && !x.den.neg)) (mv_ok (by kernel_rfl))) <| ?_
      rcases hb2 : (true && !x.den.neg) with _ | _
      · exact zK <| zK <| zK <| zK <| zK <| zE oPf <| zM <| zK <| zK <| zK <| zK <| zK <| zE oPf <| zM <| zZ
      · refine zE (oFr fo26_0) <| zE (oFr fo24_1) <| zR (oL1 sh22) <| zE (oLm el22) <| zE oEq <| zE oPa <| zE (oV (vb (true && (((x.num.gs.length : Nat) : Int) == 0))) (mv_ok (by kernel_rfl))) <| ?_
        rcases hb3 : (true && (((x.num.gs.length : Nat) : Int) == 0)) with _ | _
        · exact zK <| zK <| zK <| zK <| zK <| zE oPf <| zM <| zZ
        · exact zE (oFr fo26_1) <| zE (oFr fo24_1) <| zR (oL1 sh22) <| zE (oLm el22) <| zE oEq <| zE oPa <| zM <| zZ
  refine pwp_ret ⟨_, (.tmp (d := (.val (.bool ((((!x.num.neg && !x.den.neg) && (((x.num.gs.length : Nat) : Int) == 0)) && (((x.den.gs.length : Nat) : Int) == 0)))))) rfl .nil), ?_⟩
  rfl
theorem h_zero (a : RRng) (ha : GOk 140737488355328 a) : Takes Tryz.prog 45 [(encG a)] (.val (.bool ((zeroR a.lo && zeroR a.hi)))) := by
  refine fn_intro Tryz.func45 rfl cb45 rfl ?_
  show PWp _ _ _ _ ⟨[(0, (.d (encG a)))], []⟩
  refine pwp_seq <| kx [(1, (.ref 0 0))] [(0, some (bx (encG a)))] (zN (oBx 0) <| zM <| zZ) ?_
  refine pwp_seq <| kx [(2, (vb ((zeroR a.lo) && (zeroR a.hi))))] [] ?_ ?_
  · refine zE (oFr fo28_0) <| zR (oLa sh26) <| zE (oCl (g_zero a.lo (toQ a.lo) ha.1)) <| zE (oV (vb (zeroR a.lo)) (mv_ok (by kernel_rfl))) <| ?_
    rcases hb1 : (zeroR a.lo) with _ | _
    · exact zK <| zK <| zK <| zE oPf <| zM <| zZ
    · exact zE (oFr fo28_1) <| zR (oLa sh26) <| zE (oCl (g_zero a.hi (toQ a.hi) ha.2)) <| zE oPa <| zM <| zZ
  refine pwp_ret ⟨_, (.tmp (d := (.val (.bool (((zeroR a.lo) && (zeroR a.hi)))))) rfl .nil), ?_⟩
  rfl
theorem l_resE1 (b : RRng) (hb : GOk 4294967296 b) : Takes Tryz.prog 17 [(encG (RRng.mk (RRat.mk (RInt.mk false []) (RInt.mk false [])) (RRat.mk (RInt.mk false []) (RInt.mk false [])))), (.val (.int .i64 (1))), (encG b), (.val (.int .i64 (1)))] (.val (.bool (true))) := by
  let y1 := (RRng.mk (RRat.mk (RInt.mk false []) (RInt.mk false [])) (RRat.mk (RInt.mk false []) (RInt.mk false [])))
  refine fn_intro Tryz.func17 rfl cb17 rfl ?_
  show PWp _ _ _ _ ⟨[(0, (.d (encG y1))), (1, (vi 1)), (2, (.d (encG b))), (3, (vi 1))], []⟩
  refine pwp_seq <| kx [(4, (.ref 0 0)), (6, (.ref 1 0))] [(0, some (bx (encG y1))), (1, some (bx (encG b)))] (zN (oBx 0) <| zN (oBx 1) <| zM <| zZ) ?_
  refine pwp_seq <| pwp_seq <| kx [(10, (vb true))] [] (zM <| zE oNe <| zZ) ?_
  refine pwp_cond (b := true) (by kernel_rfl) (fun _ => ?_) (fun h => by cases h)
  refine pwp_seq <| kx [(8, (vb true))] [] (zM <| zM <| zE oEq <| zM <| zR (oLa sh28) <| zE (oCl (h_zero y1 (gok_up gok_none (by decide)))) <| zE oPt <| zM <| zZ) ?_
  refine pwp_ret ⟨_, (.tmp (d := (.val (.bool (true)))) rfl .nil), ?_⟩
  rfl
theorem l_resO (a b : RRng) (ha : GOk 4294967296 a) (hb : GOk 4294967296 b) : Takes Tryz.prog 17 [(encG a), (.val (.int .i64 (0))), (encG b), (.val (.int .i64 (0)))] (.val (.bool ((sameG a b)))) := by
  refine fn_intro Tryz.func17 rfl cb17 rfl ?_
  show PWp _ _ _ _ ⟨[(0, (.d (encG a))), (1, (vi 0)), (2, (.d (encG b))), (3, (vi 0))], []⟩
  refine pwp_seq <| kx [(4, (.ref 0 0)), (6, (.ref 1 0))] [(0, some (bx (encG a))), (1, some (bx (encG b)))] (zN (oBx 0) <| zN (oBx 1) <| zM <| zZ) ?_
  refine pwp_seq <| pwp_seq <| kx [(10, (vb false))] [] (zM <| zE oNe <| zZ) ?_
  refine pwp_cond (b := false) (by kernel_rfl) (fun h => by cases h) (fun _ => ?_)
  refine pwp_skip <| pwp_seq <| kx [(8, (vb (true && (sameG a b))))] [] (zM <| zE oEq <| zM <| zR (oLa sh28) <| zR (oLa sh28) <| zE (oCl (l_same a b ha hb)) <| zE oPa <| zM <| zZ) ?_
  refine pwp_ret ⟨_, (.tmp (d := (.val (.bool ((true && (sameG a b)))))) rfl .nil), ?_⟩
  rfl
end Go.Proofs.YtiooafhcpkdhcaaGreatDoor
namespace Go.Fid
end Go.Fid
set_option linter.unusedVariables false
set_option linter.unusedSimpArgs false
namespace Go.Fid
end Go.Fid
namespace Go.Proofs.YtiooafhcpkdhcaaGreatDoor
open Go.Fid
set_option maxRecDepth 4000
set_option linter.unusedVariables false
set_option linter.unusedSimpArgs false
end Go.Proofs.YtiooafhcpkdhcaaGreatDoor
namespace Go.Proofs.YtiooafhcpkdhcaaGreatDoor
open Go.Fid
set_option maxRecDepth 4000
set_option linter.unusedVariables false
set_option linter.unusedSimpArgs false
theorem i_insideT (a : RRng) (p : Rat) (q : Rat) (hp : QOk a.lo p 4294967296) (hq : QOk a.hi q 4294967296) (b : RRng) (r : Rat) (s : Rat) (hr : QOk b.lo r 4294967296) (hs : QOk b.hi s 4294967296) (hv : List.all [a, b] validG = true) : Takes Tryz.prog 20 [(encG a), (encG b)] (.val (.bool ((insQ p q r s)))) := by
  refine fn_intro Tryz.func20 rfl cb20 rfl ?_
  show PWp _ _ _ _ ⟨[(0, (.d (encG a))), (1, (.d (encG b)))], []⟩
  refine pwp_seq <| kx [(2, (.ref 0 0)), (3, (.ref 1 0))] [(0, some (bx (encG a))), (1, some (bx (encG b)))] (zN (oBx 0) <| zN (oBx 1) <| zM <| zZ) ?_
  refine pwp_seq <| kx [(4, (vb ((true && decide ((cmpQ r p) ≤ 0)) && decide ((cmpQ q s) ≤ 0))))] [] ?_ ?_
  · refine zR (oLa sh28) <| zR (oLa sh28) <| zE (oBs el91 ze28 zo28) <| zE (oCl (by have h := i_valids [a, b] (List.forall_mem_cons.2 ⟨⟨qok_self (qok_up hp (by decide : 4294967296 ≤ 4294967296)), qok_self (qok_up hq (by decide : 4294967296 ≤ 4294967296))⟩, (List.forall_mem_cons.2 ⟨⟨qok_self (qok_up hr (by decide : 4294967296 ≤ 4294967296)), qok_self (qok_up hs (by decide : 4294967296 ≤ 4294967296))⟩, (fun a h => by cases h)⟩)⟩) (by simp); rw [show List.all [a, b] validG = true from hv] at h; exact h)) <| zM <| zE (oFr fo28_0) <| zR (oLa sh26) <| zE (oFr fo28_0) <| zR (oLa sh26) <| zE (oCl (f_compare b.lo a.lo r p (qok_up hr (by decide)) (qok_up hp (by decide)))) <| zE oLe <| zE oPa <| zE (oV (vb (true && decide ((cmpQ r p) ≤ 0))) (mv_ok (by kernel_rfl))) <| ?_
    rcases hb1 : (true && decide ((cmpQ r p) ≤ 0)) with _ | _
    · exact zK <| zK <| zK <| zK <| zK <| zK <| zE oPf <| zM <| zZ
    · exact zE (oFr fo28_1) <| zR (oLa sh26) <| zE (oFr fo28_1) <| zR (oLa sh26) <| zE (oCl (f_compare a.hi b.hi q s (qok_up hq (by decide)) (qok_up hs (by decide)))) <| zE oLe <| zE oPa <| zM <| zZ
  refine pwp_ret ⟨_, (.tmp (d := (.val (.bool (((true && decide ((cmpQ r p) ≤ 0)) && decide ((cmpQ q s) ≤ 0)))))) rfl .nil), ?_⟩
  rw [← insQ_eq]; rfl
end Go.Proofs.YtiooafhcpkdhcaaGreatDoor
set_option linter.unusedVariables false
set_option linter.unusedSimpArgs false
namespace Go.Fid
open Go.RowKit (Below)
section
variable {P : Program} {o : Oper} {S : Nat → SV}
end
section
variable {P : Program} {n : Fr} {ops : Array Oper} {K : SL → BS → Prop} {S : SL} {B : BS} {l : List Oper} {o : Oper} {news : List Nat} {acc0 : List (List Nat × List Nat)}
end
end Go.Fid
set_option linter.unusedVariables false
set_option linter.unusedSimpArgs false
namespace Go.Fid
open Go.RowKit (Below)
inductive CArgs (bl : List (Nat × List Dat)) : List Nat → List (List Dat) → Prop
  | nil : CArgs bl [] []
  | cons {k : Nat} {cs : List Dat} {ks : List Nat} {css : List (List Dat)} (hk : (k, cs) ∈ bl) (h : CArgs bl ks css) : CArgs bl (k :: ks) (cs :: css)
theorem CArgs.len {bl : List (Nat × List Dat)} {ks : List Nat} {css : List (List Dat)} (h : CArgs bl ks css) : ks.length = css.length := by
  induction h with
  | nil => rfl
  | cons hk h ih => simp [ih]
theorem CArgs.get {bl : List (Nat × List Dat)} {ks : List Nat} {css : List (List Dat)} (h : CArgs bl ks css) : ∀ (i : Nat) k cs, ks[i]? = some k → css[i]? = some cs → (k, cs) ∈ bl := by
  induction h with
  | nil => intro i k cs h; simp at h
  | cons hk h ih =>
    intro i k cs h1 h2
    rcases i with _ | i
    · simp at h1 h2; subst h1; subst h2; exact hk
    · exact ih i k cs (by simpa using h1) (by simpa using h2)
inductive MArgs (bl : List (Nat × List Dat)) (E : TypeId) : List SV → List Dat → Prop
  | nil : MArgs bl E [] []
  | d {x : Dat} {zs : List SV} {ds : List Dat} (h : MArgs bl E zs ds) : MArgs bl E (.d x :: zs) (x :: ds)
  | v {k q n s : Nat} {cs es : List Dat} {zs : List SV} {ds : List Dat} (hk : (k, cs) ∈ bl) (hes : ∀ e ∈ es, e.cells.length = s) (hl : es.length = n) (hc : (cs.drop q).take (n * s) = flat es) (h : MArgs bl E zs ds) : MArgs bl E (.view k q n :: zs) (.sl E s es :: ds)
  | p {k o : Nat} {cs : List Dat} {zs : List SV} {ds : List Dat} (hk : (k, cs) ∈ bl) (h : MArgs bl E zs ds) : MArgs bl E (.ref k o :: zs) (.cptr E cs o :: ds)
  | c {f : FuncId} {ks : List Nat} {css : List (List Dat)} {zs : List SV} {ds : List Dat} (hk : CArgs bl ks css) (h : MArgs bl E zs ds) : MArgs bl E (.clo f ks :: zs) (.clo f (css.map fun cs => .cptr E cs 0) :: ds)
theorem MArgs.len {bl : List (Nat × List Dat)} {E : TypeId} {zs : List SV} {ds : List Dat} (h : MArgs bl E zs ds) : zs.length = ds.length := by
  induction h with
  | nil => rfl
  | d h ih => simp [ih]
  | v hk hes hl hc h ih => simp [ih]
  | p hk h ih => simp [ih]
  | c hk h ih => simp [ih]
theorem MArgs.rep {bl : List (Nat × List Dat)} {E : TypeId} {zs : List SV} {ds : List Dat} (h : MArgs bl E zs ds) {w : World} {D D' : DSet} {β : BMap} (h1 : ∀ v x, Rep w D v x → Rep w D' v x)
    (h2 : ∀ (k q n s : Nat) (cs es : List Dat) (v : Value), (k, cs) ∈ bl → (∀ e ∈ es, e.cells.length = s) → es.length = n → (cs.drop q).take (n * s) = flat es → RepS w D β v (.view k q n) → Rep w D' v (.sl E s es))
    (h3 : ∀ (k o : Nat) (cs : List Dat) (v : Value), (k, cs) ∈ bl → RepS w D β v (.ref k o) → Rep w D' v (.cptr E cs o)) :
    ∀ (vs : List Value), vs.length = zs.length → (∀ (i : Nat) v x, vs[i]? = some v → zs[i]? = some x → RepS w D β v x) → ∀ (i : Nat) v d, vs[i]? = some v → ds[i]? = some d → Rep w D' v d := by
  induction h with
  | nil => intro vs _ _ i v d _ hd; simp at hd
  | d h ih =>
    intro vs hl hr i v d' hv hd
    rcases vs with _ | ⟨v0, vs⟩
    · simp at hl
    · rcases i with _ | i
      · simp at hv hd; subst hv; subst hd; exact h1 _ _ (hr 0 _ _ rfl rfl)
      · exact ih vs (by simpa using hl) (fun i v x h3 h4 => hr (i + 1) v x (by simpa using h3) (by simpa using h4)) i v d' (by simpa using hv) (by simpa using hd)
  | v hk hes hl' hc h ih =>
    intro vs hl hr i v d' hv hd
    rcases vs with _ | ⟨v0, vs⟩
    · simp at hl
    · rcases i with _ | i
      · simp at hv hd; subst hv; subst hd; exact h2 _ _ _ _ _ _ _ hk hes hl' hc (hr 0 _ _ rfl rfl)
      · exact ih vs (by simpa using hl) (fun i v x h3 h4 => hr (i + 1) v x (by simpa using h3) (by simpa using h4)) i v d' (by simpa using hv) (by simpa using hd)
  | p hk h ih =>
    intro vs hl hr i v d' hv hd
    rcases vs with _ | ⟨v0, vs⟩
    · simp at hl
    · rcases i with _ | i
      · simp at hv hd; subst hv; subst hd; exact h3 _ _ _ _ hk (hr 0 _ _ rfl rfl)
      · exact ih vs (by simpa using hl) (fun i v x h3 h4 => hr (i + 1) v x (by simpa using h3) (by simpa using h4)) i v d' (by simpa using hv) (by simpa using hd)
  | c hk h ih =>
    intro vs hl hr i v d' hv hd
    rcases vs with _ | ⟨v0, vs⟩
    · simp at hl
    · rcases i with _ | i
      · simp at hv hd; subst hv; subst hd
        obtain ⟨us, e1, e2, e3⟩ := hr 0 _ _ rfl rfl
        rw [e1]
        refine .clo us (by rw [e2, hk.len, List.length_map]) fun j u d hu hd => ?_
        rw [List.getElem?_map, Option.map_eq_some_iff] at hd
        obtain ⟨cs, hcs, rfl⟩ := hd
        have hlt : j < _ := (List.getElem?_eq_some_iff.1 hcs).1
        rw [← hk.len] at hlt
        obtain ⟨b, g1, g2⟩ := e3 j _ (List.getElem?_eq_getElem hlt)
        rw [hu] at g2
        injection g2 with g2
        exact h3 _ 0 cs u (hk.get j _ cs (List.getElem?_eq_getElem hlt) hcs) ⟨b, g1, g2⟩
      · exact ih vs (by simpa using hl) (fun i v x h3 h4 => hr (i + 1) v x (by simpa using h3) (by simpa using h4)) i v d' (by simpa using hv) (by simpa using hd)
end Go.Fid
set_option linter.unusedVariables false
set_option linter.unusedSimpArgs false
namespace Go.Fid
variable {P : Program}
end Go.Fid
set_option linter.unusedVariables false
set_option linter.unusedSimpArgs false
namespace Go.Fid
variable {P : Program} {o : Oper} {S : Nat → SV}
end Go.Fid
set_option linter.unusedVariables false
set_option linter.unusedSimpArgs false
namespace Go.Fid
variable {P : Program} {o : Oper} {S : Nat → SV}
theorem e_shr {T T' : TypeId} {x y : Operand} {k k' : IntKind} {m : Int} {n : Nat} (r : Int) (ho : o.op = .binOp .shr T x y T' := by exact rfl) (hx : ev S x = .d (.val (.int k m)) := by exact rfl) (hy : ev S y = .d (.val (.int k' ((n : Nat) : Int))) := by exact rfl)
    (hr : m.fdiv (2 ^ (min n k.bits)) = r := by kernel_rfl) : EOk P o S [] (.d (.val (.int k r))) :=
  e_bin ho hx hy (by simp [eqGuard]) fun w => by
    have h0 : ¬ ((n : Nat) : Int) < 0 := by omega
    simp only [binOp, Op.shift, h0, if_false, Int.toNat_natCast, hr, Sem.run_pure]
end Go.Fid
set_option linter.unusedVariables false
set_option linter.unusedSimpArgs false
namespace Go.Fid
open Go.RowKit (Below)
section
variable {P : Program} {o : Oper} {st : PS}
end
section
variable {P : Program} {o : Oper} {S : Nat → SV}
end
end Go.Fid
set_option linter.unusedVariables false
set_option linter.unusedSimpArgs false
namespace Go.Fid
open Go.RowKit (Below)
section
variable {P : Program} {o : Oper} {S : SL}
end
end Go.Fid
set_option linter.unusedVariables false
set_option linter.unusedSimpArgs false
namespace Go.Fid
section
variable {P : Program} {n : Fr} {ops : Array Oper} {K : SL → BS → Prop} {S : SL} {B : BS} {l : List Oper} {o : Oper} {α : Type} {T E t' : TypeId} {x y : Operand} {k s m bytes : Nat} {zv : List Value}
variable {news : List Nat} {acc0 : List (List Nat × List Nat)}
end
end Go.Fid
set_option linter.unusedVariables false
set_option linter.unusedSimpArgs false
namespace Go.Fid
end Go.Fid
set_option linter.unusedVariables false
set_option linter.unusedSimpArgs false
namespace Go.Fid
open Go.RowKit (Below)
section
variable {P : Program}
end
section
variable {P : Program} {o : Oper} {S : Nat → SV}
end
section
variable {P : Program}
end
end Go.Fid
set_option linter.unusedVariables false
set_option linter.unusedSimpArgs false
namespace Go.Fid
open Go.RowKit (Below)
section
variable {P : Program} {o : Oper} {S : Nat → SV}
end
end Go.Fid
set_option linter.unusedVariables false
set_option linter.unusedSimpArgs false
namespace Go.Fid
open Go.RowKit (Below)
section
variable {P : Program} {n : Fr} {ops : Array Oper} {K : SL → BS → Prop} {S S0 S1 : SL} {B B0 B1 : BS} {l : List Oper} {o : Oper} {D : SL}
end
end Go.Fid
set_option linter.unusedVariables false
set_option linter.unusedSimpArgs false
namespace Go.Fid
section
variable {P : Program} {S : SL} {B : BS} {o : Oper} {x y : Operand} {k : Nat} {T : TypeId}
end
section
variable {P : Program} {o : Oper}
theorem oQd {S : Nat → SV} {z : SV} (d d2 : Dat) (h : EOk P o S [] z) (e : d = d2) (e0 : z = .d d := by kernel_rfl) : EOk P o S [] (.d d2) := e ▸ e0 ▸ h
theorem oQr {S : SL} {B : BS} {k : Nat} {z : SV} (d d2 : Dat) (h : ROk P o S B k z) (e : d = d2) (e0 : z = .d d := by kernel_rfl) : ROk P o S B k (.d d2) := e ▸ e0 ▸ h
end
end Go.Fid
set_option linter.unusedVariables false
set_option linter.unusedSimpArgs false
namespace Go.Fid
open Go.RowKit (Below)
def SV.ren (σ : Nat → Nat) : SV → SV
  | .ref k o => .ref (σ k) o
  | .own k t s n => .own (σ k) t s n
  | .clo f ks => .clo f (ks.map σ)
  | .view k o n => .view (σ k) o n
  | .d x => .d x
  | .emp => .emp
  | .junk => .junk
def mineOf (β : BMap) (B : BS) (b : Nat) : Prop := ∃ k c, bget B k = some c ∧ β k = some b
structure SPost (w : World) (D : DSet) (β : BMap) (xs : List SV) (B : BS) (r : SV) (B' : BS) (v : Value) (w' : World) (D' : DSet) (β' : BMap) : Prop where
  below : BelowM (mineOf β B) w.heap.size w w'
  keep : ∀ t g o, D t g o → w'.cell? ⟨g, o, none⟩ = w.cell? ⟨g, o, none⟩
  oth : ∀ (k : Nat) (o : Obj), w.heap[k]? = some o → o.isCells = false → w'.heap[k]? = some o
  up : ∀ t g o, D t g o → D' t g o
  new : ∀ t g o, D' t g o → D t g o ∨ w.heap.size ≤ g ∨ mineOf β B g
  dok : DOk D' w'
  mem : Mem w' D' β' B'
  high : ∀ k c, bget B' k = some c → ∀ b, β' k = some b → w.heap.size ≤ b ∨ mineOf β B b
  same : ∀ (i k o : Nat), xs[i]? = some (.ref k o) → β' k = β k
  res : RepS w' D' β' v r
structure TakesS (P : Program) (f : FuncId) (xs : List SV) (B : BS) (r : SV) (B' : BS) : Prop where
  may : callB P f = true
  run : ∀ (w : World) (D : DSet) (β : BMap) (vs : List Value), DOk D w → Mem w D β B → vs.length = xs.length → (∀ (i : Nat) v x, vs[i]? = some v → xs[i]? = some x → RepS w D β v x) →
    Calls P f vs.toArray w fun e w' => ∃ v D' β', e = .returned v ∧ SPost w D β xs B r B' v w' D' β'
section
variable {P : Program}
end
def sg (ks : List Nat) (M : Nat) (k : Nat) : Nat := (ks[k]?).getD (k + M)
def mmB (ks : List Nat) (k : Nat) : Bool := ks.any (Nat.beq k)
theorem mmB_iff {ks : List Nat} {k : Nat} : mmB ks k = true ↔ k ∈ ks := by
  unfold mmB
  rw [List.any_eq_true]
  constructor
  · rintro ⟨x, hx, e⟩; rw [beq_true_eq e]; exact hx
  · intro h; exact ⟨k, h, by simp⟩
inductive RB (ks : List Nat) (M : Nat) : BS → BS → Prop
  | nil : RB ks M [] []
  | cons {k j : Nat} {c c2 : List SV} {B B2 : BS} (hk : ks[k]? = some j) (hc : c.map (SV.ren (sg ks M)) = c2) (h : RB ks M B B2) : RB ks M ((k, some c) :: B) ((j, some c2) :: B2)
def okV (ks : List Nat) (M : Nat) (F : List Nat) (B : BS) : SV → Bool
  | .ref k _ => mmB F k || (Nat.blt k M && !(mmB ks k))
  | .view k _ _ => mmB F k || (Nat.blt k M && !(mmB ks k))
  | .clo _ l => l.all fun k => mmB F k || (Nat.blt k M && !(mmB ks k))
  | .own k _ _ _ => Nat.blt k M && !(mmB ks k) && (bget B k).isSome
  | _ => true
def RestOk (ks : List Nat) (M : Nat) (F : List Nat) (B0 B : BS) : Prop := ∀ j c, j ∉ ks → bget B j = some c → j < M ∧ c.all (okV ks M F B0) = true
section
variable {P : Program} {C : Ctx} {a : Act} {w : World} {S0 : SL} {B0 : BS} {D : DSet} {β : BMap}
inductive FnV (S : Nat → SV) (y : Operand) : FuncId → List SV → Prop
  | fn {f : FuncId} (h : ev S y = .d (.val (.func (.func f) #[] #[]))) : FnV S y f []
  | clo {f : FuncId} {kk : List Nat} {ex : List SV} (h : ev S y = .clo f kk) (he : kk.map (fun k => SV.ref k 0) = ex) : FnV S y f ex
  | dat {f : FuncId} {caps : List Dat} {ex : List SV} (h : ev S y = .d (.clo f caps)) (he : caps.map SV.d = ex) : FnV S y f ex
end
section
variable {P : Program} {n : Fr} {ops : Array Oper} {K : SL → BS → Prop} {S : SL} {B : BS} {l : List Oper} {o : Oper}
theorem rest_of {ks : List Nat} {M : Nat} {F : List Nat} {B0 : BS} : ∀ {B : BS}, (∀ p ∈ B, p.1 ∈ ks ∨ (p.1 < M ∧ ∀ c, p.2 = some c → c.all (okV ks M F B0) = true)) → RestOk ks M F B0 B
  | [], _ => fun j c _ h => by simp [bget] at h
  | (k, x) :: B, h => fun j c hj hb => by
    rw [bget_cons] at hb
    split at hb
    · rename_i e; subst e
      rcases h _ (.head _) with h1 | ⟨h1, h2⟩
      · exact absurd h1 hj
      · exact ⟨h1, h2 c hb⟩
    · exact rest_of (fun p hp => h p (.tail _ hp)) j c hj hb
inductive ROk1 (ks : List Nat) (M : Nat) (F : List Nat) (B0 : BS) : BS → Prop
  | nil : ROk1 ks M F B0 []
  | hid {k : Nat} {x : Option (List SV)} {B : BS} (hk : mmB ks k = true) (h : ROk1 ks M F B0 B) : ROk1 ks M F B0 ((k, x) :: B)
  | none {k : Nat} {B : BS} (hk : Nat.blt k M = true) (h : ROk1 ks M F B0 B) : ROk1 ks M F B0 ((k, .none) :: B)
  | dat {k : Nat} {ds : List Dat} {B : BS} (hk : Nat.blt k M = true) (h : ROk1 ks M F B0 B) : ROk1 ks M F B0 ((k, some (ds.map SV.d)) :: B)
  | map {α : Type} {k : Nat} {G : α → Dat} {L : List α} {B : BS} (hk : Nat.blt k M = true) (h : ROk1 ks M F B0 B) : ROk1 ks M F B0 ((k, some (L.map fun g => SV.d (G g))) :: B)
  | cells {k : Nat} {c : List SV} {B : BS} (hk : Nat.blt k M = true) (hc : c.all (okV ks M F B0) = true) (h : ROk1 ks M F B0 B) : ROk1 ks M F B0 ((k, some c) :: B)
theorem ROk1.ok {ks : List Nat} {M : Nat} {F : List Nat} {B0 B : BS} (h : ROk1 ks M F B0 B) : RestOk ks M F B0 B := by
  refine rest_of ?_
  induction h with
  | nil => intro p hp; simp at hp
  | hid hk h ih => intro p hp; rcases List.mem_cons.1 hp with e | e; · subst e; exact .inl (mmB_iff.1 hk)
                   · exact ih p e
  | none hk h ih => intro p hp; rcases List.mem_cons.1 hp with e | e; · subst e; exact .inr ⟨by simpa [Nat.blt_eq] using hk, fun c hc => by cases hc⟩
                    · exact ih p e
  | dat hk h ih => intro p hp; rcases List.mem_cons.1 hp with e | e; · subst e; exact .inr ⟨by simpa [Nat.blt_eq] using hk, fun c hc => by
                                                                         injection hc with hc; subst hc; simp [okV]⟩
                   · exact ih p e
  | map hk h ih => intro p hp; rcases List.mem_cons.1 hp with e | e; · subst e; exact .inr ⟨by simpa [Nat.blt_eq] using hk, fun c hc => by
                                                                         injection hc with hc; subst hc; simp [okV]⟩
                   · exact ih p e
  | cells hk hc h ih => intro p hp; rcases List.mem_cons.1 hp with e | e; · subst e; exact .inr ⟨by simpa [Nat.blt_eq] using hk, fun c hc' => by
                                                                              injection hc' with hc'; subst hc'; exact hc⟩
                        · exact ih p e
end
end Go.Fid
set_option linter.unusedVariables false
set_option linter.unusedSimpArgs false
namespace Go.Fid
variable {P : Program} {o : Oper} {S : Nat → SV} {T T' : TypeId} {x y : Operand} {k k' : IntKind}
theorem e_and {m n r : Int} (ho : o.op = .binOp .and T x y T') (hx : ev S x = .d (.val (.int k m))) (hy : ev S y = .d (.val (.int k n))) (hr : k.wrap (((BitVec.ofInt k.bits m &&& BitVec.ofInt k.bits n).toNat : Nat) : Int) = r) : EOk P o S [] (.d (.val (.int k r))) :=
  e_bin ho hx hy rfl fun w => by subst hr; simp [binOp, Op.intBits]
theorem and_i64 {m n : Nat} (hm : m < 9223372036854775808) (hn : n < 9223372036854775808) : IntKind.i64.wrap (((BitVec.ofInt IntKind.i64.bits ((m : Nat) : Int) &&& BitVec.ofInt IntKind.i64.bits ((n : Nat) : Int)).toNat : Nat) : Int) = ((m &&& n : Nat) : Int) := by
  have h1 : (m &&& n) ≤ m := Nat.and_le_left
  have e : (BitVec.ofInt IntKind.i64.bits ((m : Nat) : Int) &&& BitVec.ofInt IntKind.i64.bits ((n : Nat) : Int)).toNat = m &&& n := by
    rw [BitVec.toNat_and]
    show (BitVec.ofInt 64 ((m : Nat) : Int)).toNat &&& (BitVec.ofInt 64 ((n : Nat) : Int)).toNat = _
    rw [BitVec.toNat_ofInt, BitVec.toNat_ofInt]
    congr 1 <;> omega
  rw [e]
  exact wi64 rfl (by omega) (by omega)
theorem oAb {m n : Nat} (r : Nat) (ho : o.op = .binOp .and T x y T' := by exact rfl) (hx : ev S x = .d (.val (.int .i64 ((m : Nat) : Int))) := by exact rfl) (hy : ev S y = .d (.val (.int .i64 ((n : Nat) : Int))) := by exact rfl) (hm : m < 9223372036854775808 := by omega) (hn : n < 9223372036854775808 := by omega) (hr : (m &&& n) = r := by exact rfl) : EOk P o S [] (.d (.val (.int .i64 ((r : Nat) : Int)))) :=
  hr ▸ e_and ho hx hy (and_i64 hm hn)
theorem shr1 (m : Nat) : ((m : Nat) : Int).fdiv (2 ^ (min 1 IntKind.i64.bits)) = ((m / 2 : Nat) : Int) := by
  rw [Int.fdiv_eq_ediv_of_nonneg _ (by decide)]
  show ((m : Nat) : Int) / (2 ^ 1) = _
  omega
def strB (P : Program) (T : TypeId) : Bool := match P.underlying T with | some .string => true | _ => false
theorem str_of {T : TypeId} (h : strB P T = true) : P.underlying T = some .string := by
  unfold strB at h
  split at h
  · assumption
  · cases h
theorem oLstr {b : ByteArray} (hT : strB P T = true) (r : Nat) (ho : o.op = .call { callee := .builtin .len, args := #[x], argTypes := #[T] } := by exact rfl) (hx : ev S x = .d (.val (.string b)) := by exact rfl) (hr : b.size = r := by exact rfl) : EOk P o S [] (.d (.val (.int .i64 ((r : Nat) : Int)))) :=
  EOk.same fun a w D β hop _ => by
    have h1 := hop x (by simp [ho, Op.operands, Call.operands])
    rw [hx] at h1
    subst hr
    exact ⟨.int .i64 ((b.size : Nat) : Int), by simp [execOp, ho, resolve, invoke, builtin, rep_val h1, Builtin.len_, run_underlying (str_of hT), goInt], .val _⟩
theorem oSstr {b r : ByteArray} {l h : Nat} {lo hi : Operand} {kl kh : IntKind} (hT : strB P T = true) (ho : o.op = .slice T x (some lo) (some hi) none := by exact rfl) (hx : ev S x = .d (.val (.string b)) := by exact rfl) (hlo : ev S lo = .d (.val (.int kl ((l : Nat) : Int))) := by exact rfl) (hhi : ev S hi = .d (.val (.int kh ((h : Nat) : Int))) := by exact rfl)
    (h1 : l ≤ h := by decide) (h2 : h ≤ b.size := by decide) (hr : b.extract l h = r := by kernel_rfl) : EOk P o S [] (.d (.val (.string r))) :=
  EOk.same fun a w D β hop _ => by
    have p1 := hop x (by simp [ho, Op.operands])
    have p2 := hop lo (by simp [ho, Op.operands])
    have p3 := hop hi (by simp [ho, Op.operands])
    rw [hx] at p1
    rw [hlo] at p2
    rw [hhi] at p3
    subst hr
    have b1 : ∀ c : BoundsCode, (Instr.sliceBound (.int kh (h : Int)) b.size c).run P w = .ok h w := fun _ => run_sliceBound h2 w
    have b2 : ∀ c : BoundsCode, (Instr.sliceBound (.int kl (l : Int)) h c).run P w = .ok l w := fun _ => run_sliceBound h1 w
    exact ⟨.string (b.extract l h), by simp [execOp, ho, rep_val p1, rep_val p2, rep_val p3, Instr.sliceAt, run_underlying (str_of hT), Instr.slice, Instr.sliceBounds, b1, b2], .val _⟩
end Go.Fid
set_option linter.unusedVariables false
set_option linter.unusedSimpArgs false
namespace Go.Fid
def rootN (x : Nat) : Nat := Nat.rec (motive := fun _ => Nat) 0 (fun _ r => if (r + 1) * (r + 1) ≤ x then r + 1 else r) x
theorem rootN_go (x : Nat) : ∀ k, let r : Nat := Nat.rec (motive := fun _ => Nat) 0 (fun _ r => if (r + 1) * (r + 1) ≤ x then r + 1 else r) k; r * r ≤ x ∧ (x < (r + 1) * (r + 1) ∨ r = k)
  | 0 => ⟨Nat.zero_le _, .inr rfl⟩
  | k + 1 => by
    obtain ⟨h1, h2⟩ := rootN_go x k
    dsimp only at h1 h2 ⊢
    generalize hr : (Nat.rec (motive := fun _ => Nat) 0 (fun _ r => if (r + 1) * (r + 1) ≤ x then r + 1 else r) k : Nat) = r at h1 h2
    split
    · rename_i h
      refine ⟨h, ?_⟩
      rcases h2 with h2 | h2
      · omega
      · right; omega
    · rename_i h; exact ⟨h1, .inl (by omega)⟩
theorem rootN_le (x : Nat) : rootN x * rootN x ≤ x := (rootN_go x x).1
theorem lt_rootN (x : Nat) : x < (rootN x + 1) * (rootN x + 1) := by
  rcases (rootN_go x x).2 with h | h
  · exact h
  · have h : rootN x = x := h
    rw [h]
    have : (x + 1) * (x + 1) = x * x + 2 * x + 1 := by rw [Nat.add_mul, Nat.mul_add]; omega
    omega
theorem sq_lt {a b : Nat} (h : a * a < b * b) : a < b := by
  rcases Nat.lt_or_ge a b with h1 | h1
  · exact h1
  · have := Nat.mul_le_mul h1 h1; omega
theorem root_uniq {x r : Nat} (h1 : r * r ≤ x) (h2 : x < (r + 1) * (r + 1)) : r = rootN x := by
  have a1 := sq_lt (Nat.lt_of_le_of_lt h1 (lt_rootN x))
  have a2 := sq_lt (Nat.lt_of_le_of_lt (rootN_le x) h2)
  omega
theorem newton_up {x r : Nat} (hr : 0 < r) : x < ((r + x / r) / 2 + 1) * ((r + x / r) / 2 + 1) := by
  have h1 : x < r * (x / r + 1) := by
    have := Nat.div_add_mod x r
    have := Nat.mod_lt x hr
    rw [Nat.mul_add, Nat.mul_one]; omega
  generalize x / r = q at *
  generalize hn : (r + q) / 2 = n at *
  have h2 : r + (q + 1) ≤ 2 * (n + 1) := by omega
  have h3 : 4 * (r * (q + 1)) ≤ (r + (q + 1)) * (r + (q + 1)) := by
    generalize q + 1 = b
    rcases Nat.le_total r b with h | h
    · obtain ⟨d, rfl⟩ := Nat.exists_eq_add_of_le h
      have : (r + (r + d)) * (r + (r + d)) = 4 * (r * (r + d)) + d * d := by grind
      omega
    · obtain ⟨d, rfl⟩ := Nat.exists_eq_add_of_le h
      have : (b + d + b) * (b + d + b) = 4 * ((b + d) * b) + d * d := by grind
      omega
  have h4 := Nat.mul_le_mul h2 h2
  have h5 : 2 * (n + 1) * (2 * (n + 1)) = 4 * ((n + 1) * (n + 1)) := by grind
  omega
theorem newton_end {x r : Nat} (hr : 0 < r) (h : r ≤ (r + x / r) / 2) : r * r ≤ x := by
  have h1 : r ≤ x / r := by omega
  exact Nat.le_trans (Nat.mul_le_mul_left r h1) (Nat.mul_div_le x r)
theorem newton_pos {x r : Nat} (hx : 0 < x) (hr : 0 < r) : 0 < (r + x / r) / 2 := by
  have := newton_up (x := x) hr
  rcases Nat.eq_zero_or_pos ((r + x / r) / 2) with h | h
  · rw [h] at this; omega
  · exact h
theorem newton_root {x r : Nat} (hr : 0 < r) (hu : x < (r + 1) * (r + 1)) (h : r ≤ (r + x / r) / 2) : r = rootN x := root_uniq (newton_end hr h) hu
theorem bis_end {x l h : Nat} (h1 : l * l ≤ x) (h2 : x < h * h) (hlh : h ≤ l + 1) : l = rootN x := by
  refine root_uniq h1 (Nat.lt_of_lt_of_le h2 (Nat.mul_le_mul hlh hlh))
theorem log2_div {x m b : Nat} (hm : m = 2 ^ b) (h : m ≤ x) : Nat.log2 x = Nat.log2 (x / m) + b := by
  have hm0 : 0 < m := by rw [hm]; exact Nat.two_pow_pos b
  have h1 : 1 ≤ x / m := (Nat.one_le_div_iff hm0).2 h
  have h0 : x / m ≠ 0 := by omega
  have a1 := Nat.log2_self_le h0
  have a2 : x / m + 1 ≤ 2 ^ (Nat.log2 (x / m) + 1) := Nat.lt_log2_self
  have q := Nat.div_add_mod x m
  have ql := Nat.mod_lt x hm0
  refine (Nat.log2_eq_iff (by omega)).2 ⟨?_, ?_⟩
  · rw [Nat.pow_add, ← hm]
    have := Nat.mul_le_mul_right m a1
    rw [Nat.mul_comm (x / m) m] at this
    omega
  · rw [show Nat.log2 (x / m) + b + 1 = (Nat.log2 (x / m) + 1) + b by omega, Nat.pow_add, ← hm]
    have := Nat.mul_le_mul_right m a2
    rw [Nat.add_mul, Nat.one_mul, Nat.mul_comm (x / m) m] at this
    omega
theorem log2_step {x : Nat} (h : 536870912 ≤ x) : Nat.log2 x = Nat.log2 (x / 536870912) + 29 := log2_div rfl h
theorem log2_half {x : Nat} (h : 2 ≤ x) : Nat.log2 x = Nat.log2 (x / 2) + 1 := by
  rw [Nat.log2_def, if_pos h]
theorem log_bound {x : Nat} (h : 0 < x) : x < 2 ^ (Nat.log2 x / 2 + 1) * 2 ^ (Nat.log2 x / 2 + 1) := by
  have := Nat.lt_log2_self (n := x)
  rw [← Nat.pow_add]
  exact Nat.lt_of_lt_of_le this (Nat.pow_le_pow_right (by decide) (by omega))
theorem bit_and (n b : Nat) : (n &&& 2 ^ b = 0) ↔ n / 2 ^ b % 2 = 0 := by
  have hb : n.testBit b = decide (n / 2 ^ b % 2 = 1) := Nat.testBit_eq_decide_div_mod_eq
  have key : (n &&& 2 ^ b = 0) ↔ n.testBit b = false := by
    constructor
    · intro h
      have := congrArg (fun m : Nat => m.testBit b) h
      simpa [Nat.testBit_and, Nat.testBit_two_pow] using this
    · intro h
      apply Nat.eq_of_testBit_eq
      intro i
      rw [Nat.testBit_and, Nat.testBit_two_pow, Nat.zero_testBit]
      by_cases e : b = i
      · subst e; rw [h]; rfl
      · simp [e]
  rw [key, hb, decide_eq_false_iff_not]
  omega
end Go.Fid
