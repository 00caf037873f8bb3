/- Part 22 of a proof: rules, plain facts, and functions walked. -/
import Derived.Test.YtihgdjljnaekmaaGreatM21
import Derived.Test.YtihgdjljnaekmaaGreatM15
import Derived.Test.YtihgdjljnaekmaaGreatM13
import Derived.Test.YtihgdjljnaekmaaGreatM11
namespace Go.Proofs.YtihgdjljnaekmaaGreat
open Go.Fid
set_option maxRecDepth 4000
set_option linter.unusedVariables false
set_option linter.unusedSimpArgs false
theorem cb18 : callB Tryz.prog 18 = true := by kernel_rfl
theorem cb63 : callB Tryz.prog 63 = true := by kernel_rfl
theorem cb80 : callB Tryz.prog 80 = true := by kernel_rfl
theorem cb89 : callB Tryz.prog 89 = true := by kernel_rfl
theorem cb122 : callB Tryz.prog 122 = true := by kernel_rfl
theorem cb123 : callB Tryz.prog 123 = true := by kernel_rfl
theorem cb159 : callB Tryz.prog 159 = true := by kernel_rfl
theorem g_reduced (num den : RInt) (a b : Int) (hnum : IOk num a 68719476736) (hden : IOk den b 68719476736) (hb : b ≠ 0) : Takes Tryz.prog 159 [(encI num), (encI den)] (encR (ofQ (Rat.divInt a b))) := by
  refine fn_intro Tryz.func159 rfl cb159 rfl ?_
  show PWp _ _ _ _ ⟨[(0, (.d (encI num))), (1, (.d (encI den)))], []⟩
  refine pwp_seq <| kx [(2, (.ref 0 0)), (3, (.ref 1 0)), (4, (.ref 2 0))] [(0, some (bx (encI num))), (1, some (bx (encI den))), (2, some (bx (encR (RRat.mk (RInt.mk false []) (RInt.mk false [])))))] (zN (oBx 0) <| zN (oBx 1) <| zN (oAl 2 ze51 zo51) <| zZ) ?_
  refine pwp_seq <| kx [(5, (.ref 3 0))] [(3, some (bx (encI (ofZ ((Int.gcd a b : Nat) : Int)))))] (zR (oLa sh49) <| zR (oLa sh49) <| zE (oCl (rs_gcd hnum hden (by decide) (by decide))) <| zN (oAl 3 ze49 zo49) <| zT (oSt sh49) <| zZ) ?_
  refine pwp_seq <| pwp_seq <| kx [(17, (vb (decide ((signI b) < 0))))] [] (zR (oLa sh49) <| zE (oCl (rs_sign hden (by decide))) <| zE oLt <| zZ) ?_
  refine pwp_cond (b := decide ((signI b) < 0)) rfl (fun h1 => ?_) (fun h1 => ?_)
  · replace h1 := of_decide_eq_true h1
    have hlt := signI_lt.1 h1
    refine kx [] [(3, some (bx (encI (ofZ (-(((Int.gcd a b : Nat) : Int)))))))] (zR (oLa sh49) <| zE (oCl (rs_neg (iok_gcd (k := 68719476736) hnum hden (by decide)) (by decide))) <| zT (oSt sh49) <| zZ) ?_
    refine pwp_seq <| kx [(6, (.ref 4 0))] [(4, some (bx (encI (ofZ (a.fdiv (-(((Int.gcd a b : Nat) : Int)))))))), (5, none)] (zR (oLa sh49) <| zR (oLa sh49) <| zE (oCl (rs_divide hnum (iok_neg (iok_gcd (k := 68719476736) hnum hden (by decide))) (by decide) (by decide) (by have := gcd_ne (a := a) hb; omega))) <| zM <| zE oEx <| zE oEx <| zE oEx <| zN (oAl 4 ze49 zo49) <| zN (oAl 5 ze49 zo49) <| zT (oSt sh49) <| zT (oSt sh49) <| zM <| zZ) ?_
    refine pwp_seq <| kx [(9, (.ref 6 0))] [(6, some (bx (encI (ofZ (b.fdiv (-(((Int.gcd a b : Nat) : Int)))))))), (7, none)] (zR (oLa sh49) <| zR (oLa sh49) <| zE (oCl (rs_divide hden (iok_neg (iok_gcd (k := 68719476736) hnum hden (by decide))) (by decide) (by decide) (by have := gcd_ne (a := a) hb; omega))) <| zM <| zE oEx <| zE oEx <| zE oEx <| zN (oAl 6 ze49 zo49) <| zN (oAl 7 ze49 zo49) <| zT (oSt sh49) <| zT (oSt sh49) <| zM <| zZ) ?_
    refine pwp_seq <| kx [] [(2, some (bx (encR (RRat.mk (ofZ (a.fdiv (-(((Int.gcd a b : Nat) : Int))))) (ofZ (b.fdiv (-(((Int.gcd a b : Nat) : Int)))))))))] (zR (oLa sh49) <| zR (oLa sh49) <| zE (oBd pl51 ze51 zo51) <| zT (oSt sh51) <| zZ) ?_
    refine pwp_ret ⟨_, (res_a (cs := (bx (encR (RRat.mk (ofZ (a.fdiv (-(((Int.gcd a b : Nat) : Int))))) (ofZ (b.fdiv (-(((Int.gcd a b : Nat) : Int))))))))) (d := (encR (RRat.mk (ofZ (a.fdiv (-(((Int.gcd a b : Nat) : Int))))) (ofZ (b.fdiv (-(((Int.gcd a b : Nat) : Int)))))))) rfl rfl sh51 rfl rfl .nil), ?_⟩
    rw [← red_neg2 hlt]; rfl
  · replace h1 := of_decide_eq_false h1
    have hge : ¬ b < 0 := fun hh => h1 (signI_lt.2 hh)
    refine pwp_skip <| pwp_seq <| kx [(6, (.ref 8 0))] [(8, some (bx (encI (ofZ (a.fdiv (((Int.gcd a b : Nat) : Int))))))), (9, none)] (zR (oLa sh49) <| zR (oLa sh49) <| zE (oCl (rs_divide hnum (iok_gcd (k := 68719476736) hnum hden (by decide)) (by decide) (by decide) (by have := gcd_ne (a := a) hb; omega))) <| zM <| zE oEx <| zE oEx <| zE oEx <| zN (oAl 8 ze49 zo49) <| zN (oAl 9 ze49 zo49) <| zT (oSt sh49) <| zT (oSt sh49) <| zM <| zZ) ?_
    refine pwp_seq <| kx [(9, (.ref 10 0))] [(10, some (bx (encI (ofZ (b.fdiv (((Int.gcd a b : Nat) : Int))))))), (11, none)] (zR (oLa sh49) <| zR (oLa sh49) <| zE (oCl (rs_divide hden (iok_gcd (k := 68719476736) hnum hden (by decide)) (by decide) (by decide) (by have := gcd_ne (a := a) hb; omega))) <| zM <| zE oEx <| zE oEx <| zE oEx <| zN (oAl 10 ze49 zo49) <| zN (oAl 11 ze49 zo49) <| zT (oSt sh49) <| zT (oSt sh49) <| zM <| zZ) ?_
    refine pwp_seq <| kx [] [(2, some (bx (encR (RRat.mk (ofZ (a.fdiv (((Int.gcd a b : Nat) : Int)))) (ofZ (b.fdiv (((Int.gcd a b : Nat) : Int))))))))] (zR (oLa sh49) <| zR (oLa sh49) <| zE (oBd pl51 ze51 zo51) <| zT (oSt sh51) <| zZ) ?_
    refine pwp_ret ⟨_, (res_a (cs := (bx (encR (RRat.mk (ofZ (a.fdiv (((Int.gcd a b : Nat) : Int)))) (ofZ (b.fdiv (((Int.gcd a b : Nat) : Int)))))))) (d := (encR (RRat.mk (ofZ (a.fdiv (((Int.gcd a b : Nat) : Int)))) (ofZ (b.fdiv (((Int.gcd a b : Nat) : Int))))))) rfl rfl sh51 rfl rfl .nil), ?_⟩
    rw [red_pos hge hb]; rfl
theorem g_whole1 (n : Int) (hlo : -9223372036854775808 ≤ n) (hhi : n ≤ 9223372036854775807) : Takes Tryz.prog 123 [(.val (.int .i64 (n)))] (encI (ofZ n)) := by
  refine fn_intro Tryz.func123 rfl cb123 rfl ?_
  show PWp _ _ _ _ ⟨[(0, (vi n))], []⟩
  refine pwp_seq <| kx [(2, (.ref 0 0))] [(0, some (bx (encI (RInt.mk false []))))] (zN (oAl 0 ze49 zo49) <| zZ) ?_
  refine pwp_seq <| kx [] [(0, some (bx (encI (ofZ n))))] (zM <| zE (oCl (r_of n (by omega) (by omega))) <| zT (oSt sh49) <| zZ) ?_
  refine pwp_ret ⟨_, (res_a (cs := (bx (encI (ofZ n)))) (d := (encI (ofZ n))) rfl rfl sh49 rfl rfl .nil), ?_⟩
  rfl
theorem g_whole (n : Int) (hlo : -9223372036854775808 ≤ n) (hhi : n ≤ 9223372036854775807) : Takes Tryz.prog 89 [(.val (.int .i64 (n)))] (encR (ofQ ((n : Int) : Rat))) := by
  refine fn_intro Tryz.func89 rfl cb89 rfl ?_
  show PWp _ _ _ _ ⟨[(0, (vi n))], []⟩
  refine pwp_seq <| kx [(2, (.ref 0 0))] [(0, some (bx (encR (RRat.mk (RInt.mk false []) (RInt.mk false [])))))] (zN (oAl 0 ze51 zo51) <| zZ) ?_
  refine pwp_seq <| kx [] [(0, some (bx (encR (RRat.mk (ofZ n) (ofZ 1)))))] (zM <| zE (oCl (g_whole1 n (by omega) (by omega))) <| zE (oCl (g_whole1 1 (by decide) (by decide))) <| zE (oBd pl51 ze51 zo51) <| zT (oSt sh51) <| zZ) ?_
  refine pwp_ret ⟨_, (res_a (cs := (bx (encR (RRat.mk (ofZ n) (ofZ 1))))) (d := (encR (RRat.mk (ofZ n) (ofZ 1)))) rfl rfl sh51 rfl rfl .nil), ?_⟩
  rfl
theorem g_valid (x : RRat) (p : Rat) (hx : QOk x p 17179869184) : Takes Tryz.prog 80 [(encR x)] (.val (.bool ((validR x)))) := by
  refine fn_intro Tryz.func80 rfl cb80 rfl ?_
  show PWp _ _ _ _ ⟨[(0, (.d (encR x)))], []⟩
  refine pwp_seq <| kx [(1, (.ref 0 0))] [(0, some (bx (encR x)))] (zN (oBx 0) <| zM <| zZ) ?_
  refine pwp_seq <| pwp_seq <| kx [(18, (vb ((!(validI x.num) || !(validI x.den)) || decide ((signI (toZ x.den)) ≤ 0))))] [] ?_ ?_
  · refine zE (oFr fo51_0) <| zR (oLa sh49) <| zE (oCl (r_valid x.num (Nat.le_trans (iok_raw hx.n1).l (by decide)))) <| zE oNt <| zE (oV (vb (!(validI x.num))) (mv_ok (by kernel_rfl))) <| ?_
    rcases hb1 : (!(validI x.num)) with _ | _
    · refine zE (oFr fo51_1) <| zR (oLa sh49) <| zE (oCl (r_valid x.den (Nat.le_trans (iok_raw hx.n2).l (by decide)))) <| zE oNt <| zE oPo <| zE (oV (vb (false || !(validI x.den))) (mv_ok (by kernel_rfl))) <| ?_
      rcases hb2 : (false || !(validI x.den)) with _ | _
      · exact zE (oFr fo51_1) <| zR (oLa sh49) <| zE (oCl (rs_sign (iok_raw hx.n2) (by decide))) <| zE oLe <| zE oPo <| zZ
      · exact zK <| zK <| zK <| zK <| zE oPt <| zZ
    · exact zK <| zK <| zK <| zK <| zE oPt <| zM <| zK <| zK <| zK <| zK <| zE oPt <| zZ
  refine pwp_cond rfl (fun h3 => ?_) (fun h3 => ?_)
  · refine pwp_seq <| kx [(2, (vb false))] [] (zM <| zZ) ?_
    refine pwp_ret ⟨_, (.tmp (d := (.val (.bool (false)))) rfl .nil), ?_⟩
    rw [validR_no h3]; rfl
  · refine pwp_skip <| pwp_seq <| kx [(2, (vb ((cmpI (((Int.gcd (toZ x.num) (toZ x.den) : Nat) : Int)) 1) == 0)))] [] (zE (oFr fo51_0) <| zR (oLa sh49) <| zE (oFr fo51_1) <| zR (oLa sh49) <| zE (oCl (rs_gcd (iok_raw hx.n1) (iok_raw hx.n2) (by decide) (by decide))) <| zE (oCl (g_whole1 1 (by decide) (by decide))) <| zE (oCl (rs_compare (iok_gcd (k := 17179869184) (iok_raw hx.n1) (iok_raw hx.n2) (by decide)) (iok_small (z := 1) (by decide)) (by decide) (by decide))) <| zE oEq <| zM <| zZ) ?_
    refine pwp_ret ⟨_, (.tmp (d := (.val (.bool (((cmpI (((Int.gcd (toZ x.num) (toZ x.den) : Nat) : Int)) 1) == 0))))) rfl .nil), ?_⟩
    rw [validR_yes h3]; rfl
theorem g_value (x : RRat) (p : Rat) (hx : QOk x p 17179869184) : Takes Tryz.prog 63 [(encR x)] (encR (ofQ p)) := by
  refine fn_intro Tryz.func63 rfl cb63 rfl ?_
  show PWp _ _ _ _ ⟨[(0, (.d (encR x)))], []⟩
  refine pwp_seq <| kx [(1, (.ref 0 0)), (2, (.ref 1 0))] [(0, some (bx (encR x))), (1, some (bx (encR (RRat.mk (RInt.mk false []) (RInt.mk false [])))))] (zN (oBx 0) <| zN (oAl 1 ze51 zo51) <| zZ) ?_
  refine pwp_seq <| pwp_seq <| kx [(4, (vb (validR x)))] [] (zR (oLa sh51) <| zE (oCl (g_valid x p hx)) <| zZ) ?_
  refine pwp_cond (b := (validR x)) rfl (fun h1 => ?_) (fun h1 => ?_)
  · refine pwp_seq <| kx [] [(1, some (bx (encR x)))] (zR (oLa sh51) <| zT (oSt sh51) <| zZ) ?_
    refine pwp_ret ⟨_, (res_a (cs := (bx (encR x))) (d := (encR x)) rfl rfl sh51 rfl rfl .nil), ?_⟩
    rw [← hx.v, ofQ_toQ h1]; rfl
  · refine pwp_skip <| pwp_seq <| kx [] [(1, some (bx (encR (ofQ ((0 : Int) : Rat)))))] (zE (oCl (g_whole 0 (by decide) (by decide))) <| zT (oSt sh51) <| zZ) ?_
    refine pwp_ret ⟨_, (res_a (cs := (bx (encR (ofQ ((0 : Int) : Rat))))) (d := (encR (ofQ ((0 : Int) : Rat)))) rfl rfl sh51 rfl rfl .nil), ?_⟩
    rw [← hx.v, toQ_bad h1]; rfl
theorem g_sign (x : RRat) (p : Rat) (hx : QOk x p 17179869184) : Takes Tryz.prog 18 [(encR x)] (.val (.int .i64 ((signQ p)))) := by
  refine fn_intro Tryz.func18 rfl cb18 rfl ?_
  show PWp _ _ _ _ ⟨[(0, (.d (encR x)))], []⟩
  refine pwp_seq <| kx [(1, (.ref 0 0))] [(0, some (bx (encR x)))] (zN (oBx 0) <| zM <| zZ) ?_
  refine pwp_seq <| kx [(2, (vi (signI p.num)))] [] (zR (oLa sh51) <| zE (oCl (g_value x p hx)) <| zE (oFv ft51_0 sh49) <| zE (oCl (rs_sign (qok_num hx.ql) (by decide))) <| zM <| zZ) ?_
  refine pwp_ret ⟨_, (.tmp (d := (.val (.int .i64 ((signI p.num))))) rfl .nil), ?_⟩
  rfl
end Go.Proofs.YtihgdjljnaekmaaGreat
namespace Go.Proofs.YtihgdjljnaekmaaGreat
open Go.Fid
set_option maxRecDepth 4000
set_option linter.unusedVariables false
set_option linter.unusedSimpArgs false
end Go.Proofs.YtihgdjljnaekmaaGreat
set_option linter.unusedVariables false
set_option linter.unusedSimpArgs false
namespace Go.Fid
open Go.RowKit (Below)
section
variable {P : Program} {o : Oper} {S : Nat → SV}
theorem e_mkf {f : FuncId} {ks : List Nat} {caps : List Operand} (ho : o.op = .makeFunc (.func f) #[] caps.toArray) (hx : caps.map (ev S) = ks.map (fun k => .ref k 0)) : EOk P o S [] (.clo f ks) :=
  EOk.same fun a w D β hop _ => by
    refine ⟨.func (.func f) #[] (caps.map a.eval).toArray, ?_, caps.map a.eval, rfl, ?_, fun i k hk => ?_⟩
    · simp only [execOp, ho, Instr.makeFunc, Array.map_empty, List.map_toArray, Sem.run_bind, Sem.run_pure, Result.andThen_ok]
      rfl
    · simpa using congrArg List.length hx
    · have hi := congrArg (fun l : List SV => l[i]?) hx
      simp only [List.getElem?_map, hk, Option.map_some, Option.map_eq_some_iff] at hi
      obtain ⟨c, hc, e⟩ := hi
      have hm := hop c (by simp [ho, Op.operands, List.mem_of_getElem? hc])
      rw [e] at hm
      obtain ⟨b, h1, h2⟩ := hm
      exact ⟨b, h1, by rw [List.getElem?_map, hc, Option.map_some, h2]⟩
theorem oMf {f : FuncId} {caps : List Operand} (ks : List Nat) (ho : o.op = .makeFunc (.func f) #[] caps.toArray := by exact rfl) (hx : caps.map (ev S) = ks.map (fun k => .ref k 0) := by kernel_rfl) : EOk P o S [] (.clo f ks) := e_mkf ho hx
end
section
variable {P : Program} {n : Fr} {ops : Array Oper} {K : SL → BS → Prop} {S : SL} {B : BS} {l : List Oper} {o : Oper} {news : List Nat} {acc0 : List (List Nat × List Nat)}
end
end Go.Fid
set_option linter.unusedVariables false
set_option linter.unusedSimpArgs false
namespace Go.Fid
open Go.RowKit (Below)
inductive CArgs (bl : List (Nat × List Dat)) : List Nat → List (List Dat) → Prop
  | nil : CArgs bl [] []
  | cons {k : Nat} {cs : List Dat} {ks : List Nat} {css : List (List Dat)} (hk : (k, cs) ∈ bl) (h : CArgs bl ks css) : CArgs bl (k :: ks) (cs :: css)
theorem CArgs.len {bl : List (Nat × List Dat)} {ks : List Nat} {css : List (List Dat)} (h : CArgs bl ks css) : ks.length = css.length := by
  induction h with
  | nil => rfl
  | cons hk h ih => simp [ih]
theorem CArgs.get {bl : List (Nat × List Dat)} {ks : List Nat} {css : List (List Dat)} (h : CArgs bl ks css) : ∀ (i : Nat) k cs, ks[i]? = some k → css[i]? = some cs → (k, cs) ∈ bl := by
  induction h with
  | nil => intro i k cs h; simp at h
  | cons hk h ih =>
    intro i k cs h1 h2
    rcases i with _ | i
    · simp at h1 h2; subst h1; subst h2; exact hk
    · exact ih i k cs (by simpa using h1) (by simpa using h2)
inductive MArgs (bl : List (Nat × List Dat)) (E : TypeId) : List SV → List Dat → Prop
  | nil : MArgs bl E [] []
  | d {x : Dat} {zs : List SV} {ds : List Dat} (h : MArgs bl E zs ds) : MArgs bl E (.d x :: zs) (x :: ds)
  | v {k q n s : Nat} {cs es : List Dat} {zs : List SV} {ds : List Dat} (hk : (k, cs) ∈ bl) (hes : ∀ e ∈ es, e.cells.length = s) (hl : es.length = n) (hc : (cs.drop q).take (n * s) = flat es) (h : MArgs bl E zs ds) : MArgs bl E (.view k q n :: zs) (.sl E s es :: ds)
  | p {k o : Nat} {cs : List Dat} {zs : List SV} {ds : List Dat} (hk : (k, cs) ∈ bl) (h : MArgs bl E zs ds) : MArgs bl E (.ref k o :: zs) (.cptr E cs o :: ds)
  | c {f : FuncId} {ks : List Nat} {css : List (List Dat)} {zs : List SV} {ds : List Dat} (hk : CArgs bl ks css) (h : MArgs bl E zs ds) : MArgs bl E (.clo f ks :: zs) (.clo f (css.map fun cs => .cptr E cs 0) :: ds)
theorem MArgs.len {bl : List (Nat × List Dat)} {E : TypeId} {zs : List SV} {ds : List Dat} (h : MArgs bl E zs ds) : zs.length = ds.length := by
  induction h with
  | nil => rfl
  | d h ih => simp [ih]
  | v hk hes hl hc h ih => simp [ih]
  | p hk h ih => simp [ih]
  | c hk h ih => simp [ih]
theorem MArgs.rep {bl : List (Nat × List Dat)} {E : TypeId} {zs : List SV} {ds : List Dat} (h : MArgs bl E zs ds) {w : World} {D D' : DSet} {β : BMap} (h1 : ∀ v x, Rep w D v x → Rep w D' v x)
    (h2 : ∀ (k q n s : Nat) (cs es : List Dat) (v : Value), (k, cs) ∈ bl → (∀ e ∈ es, e.cells.length = s) → es.length = n → (cs.drop q).take (n * s) = flat es → RepS w D β v (.view k q n) → Rep w D' v (.sl E s es))
    (h3 : ∀ (k o : Nat) (cs : List Dat) (v : Value), (k, cs) ∈ bl → RepS w D β v (.ref k o) → Rep w D' v (.cptr E cs o)) :
    ∀ (vs : List Value), vs.length = zs.length → (∀ (i : Nat) v x, vs[i]? = some v → zs[i]? = some x → RepS w D β v x) → ∀ (i : Nat) v d, vs[i]? = some v → ds[i]? = some d → Rep w D' v d := by
  induction h with
  | nil => intro vs _ _ i v d _ hd; simp at hd
  | d h ih =>
    intro vs hl hr i v d' hv hd
    rcases vs with _ | ⟨v0, vs⟩
    · simp at hl
    · rcases i with _ | i
      · simp at hv hd; subst hv; subst hd; exact h1 _ _ (hr 0 _ _ rfl rfl)
      · exact ih vs (by simpa using hl) (fun i v x h3 h4 => hr (i + 1) v x (by simpa using h3) (by simpa using h4)) i v d' (by simpa using hv) (by simpa using hd)
  | v hk hes hl' hc h ih =>
    intro vs hl hr i v d' hv hd
    rcases vs with _ | ⟨v0, vs⟩
    · simp at hl
    · rcases i with _ | i
      · simp at hv hd; subst hv; subst hd; exact h2 _ _ _ _ _ _ _ hk hes hl' hc (hr 0 _ _ rfl rfl)
      · exact ih vs (by simpa using hl) (fun i v x h3 h4 => hr (i + 1) v x (by simpa using h3) (by simpa using h4)) i v d' (by simpa using hv) (by simpa using hd)
  | p hk h ih =>
    intro vs hl hr i v d' hv hd
    rcases vs with _ | ⟨v0, vs⟩
    · simp at hl
    · rcases i with _ | i
      · simp at hv hd; subst hv; subst hd; exact h3 _ _ _ _ hk (hr 0 _ _ rfl rfl)
      · exact ih vs (by simpa using hl) (fun i v x h3 h4 => hr (i + 1) v x (by simpa using h3) (by simpa using h4)) i v d' (by simpa using hv) (by simpa using hd)
  | c hk h ih =>
    intro vs hl hr i v d' hv hd
    rcases vs with _ | ⟨v0, vs⟩
    · simp at hl
    · rcases i with _ | i
      · simp at hv hd; subst hv; subst hd
        obtain ⟨us, e1, e2, e3⟩ := hr 0 _ _ rfl rfl
        rw [e1]
        refine .clo us (by rw [e2, hk.len, List.length_map]) fun j u d hu hd => ?_
        rw [List.getElem?_map, Option.map_eq_some_iff] at hd
        obtain ⟨cs, hcs, rfl⟩ := hd
        have hlt : j < _ := (List.getElem?_eq_some_iff.1 hcs).1
        rw [← hk.len] at hlt
        obtain ⟨b, g1, g2⟩ := e3 j _ (List.getElem?_eq_getElem hlt)
        rw [hu] at g2
        injection g2 with g2
        exact h3 _ 0 cs u (hk.get j _ cs (List.getElem?_eq_getElem hlt) hcs) ⟨b, g1, g2⟩
      · exact ih vs (by simpa using hl) (fun i v x h3 h4 => hr (i + 1) v x (by simpa using h3) (by simpa using h4)) i v d' (by simpa using hv) (by simpa using hd)
end Go.Fid
set_option linter.unusedVariables false
set_option linter.unusedSimpArgs false
namespace Go.Fid
variable {P : Program}
def intFs (P : Program) : List Field → Nat → Bool
  | [], _ => true
  | f :: l, i => (f.name != "_") && (Nat.beq f.offset i && ((match P.underlying f.type with | some (.int _) => true | _ => false) && intFs P l (i + 1)))
def eqsB (P : Program) (T : TypeId) : Option Nat :=
  match P.underlying T with
  | some (.struct fs) => if intFs P fs.toList 0 && (!P.stoodInHeld T && !P.eqGuardType P.depth T) then some fs.size else none
  | _ => none
theorem run_part_int {t : TypeId} {ms : List Int} {i : Nat} {m : Int} {k j : IntKind} (ht : P.underlying t = some (.int j)) (hi : ms[i]? = some m) (w : World) : (part t (ms.map (Value.int k)).toArray i).run P w = .ok (.int k m) w := by
  have h2 : (ms.map (Value.int k))[i]? = some (.int k m) := by rw [List.getElem?_map, hi]; rfl
  simp [part, run_isAgg ht, isAggD, h2]
theorem run_eqInt {t : TypeId} {k j : IntKind} {m n : Int} (ht : P.underlying t = some (.int j)) (d : Nat) (w : World) : (Op.equalIn (d + 1) t (.int k m) (.int k n)).run P w = .ok (m == n) w := by
  simp [Op.equalIn, run_underlying ht]
theorem run_fs (k : IntKind) (d : Nat) (w : World) (ms ns : List Int) : ∀ (l : List Field) (i : Nat), intFs P l i = true → ms.length = i + l.length → ns.length = i + l.length →
    Sem.run P (forIn l ((none, ()) : Option Bool × Unit) fun f _ =>
            if f.name = "_" then pure (ForInStep.yield (none, ()))
            else do
              let a ← part f.type (List.map (Value.int k) ms).toArray f.offset
              let b ← part f.type (List.map (Value.int k) ns).toArray f.offset
              let c ← Op.equalIn (d + 1) f.type a b
              if c = false then pure (ForInStep.done (some false, ())) else pure (ForInStep.yield (none, ()))) w = .ok (if ms.drop i = ns.drop i then (none, ()) else (some false, ())) w
  | [], i, _, h1, h2 => by
    have e1 : ms.drop i = [] := List.drop_eq_nil_of_le (by simp at h1; omega)
    have e2 : ns.drop i = [] := List.drop_eq_nil_of_le (by simp at h2; omega)
    rw [e1, e2]; simp
  | f :: l, i, h, h1, h2 => by
    unfold intFs at h
    simp only [Bool.and_eq_true, bne_iff_ne, ne_eq] at h
    obtain ⟨g1, g2, g3, g4⟩ := h
    have g2 : f.offset = i := Nat.eq_of_beq_eq_true g2
    have hd : ∃ j, P.underlying f.type = some (.int j) := by
      split at g3
      · rename_i j e; exact ⟨j, e⟩
      · cases g3
    obtain ⟨j, hj⟩ := hd
    simp only [List.length_cons] at h1 h2
    have b1 : i < ms.length := by omega
    have b2 : i < ns.length := by omega
    have ih := run_fs k d w ms ns l (i + 1) g4 (by omega) (by omega)
    have e1 := List.drop_eq_getElem_cons b1
    have e2 := List.drop_eq_getElem_cons b2
    simp only [List.forIn_cons, g1, if_false, g2, Sem.run_bind, run_part_int hj (List.getElem?_eq_getElem b1), run_part_int hj (List.getElem?_eq_getElem b2), Result.andThen_ok, run_eqInt hj]
    by_cases he : ms[i] = ns[i]
    · have hx : (ms.drop i = ns.drop i) = (ms.drop (i + 1) = ns.drop (i + 1)) := by
        rw [e1, e2, he]
        exact propext ⟨fun h => (List.cons.inj h).2, fun h => by rw [h]⟩
      simp only [he, beq_self_eq_true, Bool.true_eq_false, if_false, Sem.run_pure, Result.andThen_ok]
      rw [ih]
      simp only [hx]
    · have hx : ¬ ms.drop i = ns.drop i := by
        rw [e1, e2]
        exact fun h => he (List.cons.inj h).1
      have hb : (ms[i] == ns[i]) = false := by simp [he]
      simp only [hb, if_true, Sem.run_pure, Result.andThen_ok, if_neg hx]
theorem run_eqS {T : TypeId} {c : Nat} (h : eqsB P T = some c) (k : IntKind) (ms ns : List Int) (h1 : ms.length = c) (h2 : ns.length = c) (w : World) :
    (Op.equal T (.agg (ms.map (Value.int k)).toArray) (.agg (ns.map (Value.int k)).toArray)).run P w = .ok (decide (ms = ns)) w ∧ P.eqGuardType P.depth T = false := by
  unfold eqsB at h
  split at h
  · rename_i fs hT
    split at h
    · rename_i hq
      simp only [Bool.and_eq_true, Bool.not_eq_true'] at hq
      injection h with h
      refine ⟨?_, hq.2.2⟩
      show (Op.equalIn (9998 + 2) T _ _).run P w = _
      rw [Op.equalIn]
      have hl := run_fs k 9998 w ms ns fs.toList 0 hq.1 (by simp; omega) (by simp; omega)
      rw [Array.forIn_toList] at hl
      simp [run_underlying hT, hq.2.1]
      have hl2 := hl
      simp only [List.drop_zero] at hl2
      rw [hl2]
      by_cases e : ms = ns
      · simp [e]
      · simp [e]
    · cases h
  · cases h
theorem rep_ints {w : World} {D : DSet} {v : Value} {k : IntKind} {ms : List Int} (h : Rep w D v (.agg (ms.map fun m => .val (.int k m)))) : v = .agg (ms.map (Value.int k)).toArray := by
  obtain ⟨vs, rfl, hl, _, hr⟩ := rep_agg h
  have e : vs = ms.map (Value.int k) := by
    refine List.ext_getElem (by simpa using hl) fun i h1 h2 => ?_
    have hi : i < ms.length := by simpa using h2
    have := rep_val (hr i vs[i] (.val (.int k ms[i])) (List.getElem?_eq_getElem h1) (by rw [List.getElem?_map, List.getElem?_eq_getElem hi]; rfl))
    rw [this]; simp
  rw [e]
theorem e_eqs {o : Oper} {S : Nat → SV} {T T' : TypeId} {x y : Operand} {k : IntKind} {ms ns : List Int} {c : Nat} (ho : o.op = .binOp .eql T x y T') (hT : eqsB P T = some c) (hx : ev S x = .d (.agg (ms.map fun m => .val (.int k m)))) (hy : ev S y = .d (.agg (ns.map fun m => .val (.int k m)))) (h1 : ms.length = c) (h2 : ns.length = c) : EOk P o S [] (.d (.val (.bool (decide (ms = ns))))) :=
  EOk.same fun a w D β hop _ => by
    have hx' := hop x (by simp [ho, Op.operands])
    have hy' := hop y (by simp [ho, Op.operands])
    rw [hx] at hx'
    rw [hy] at hy'
    have ex := rep_ints hx'
    have ey := rep_ints hy'
    obtain ⟨g1, g2⟩ := run_eqS hT k ms ns h1 h2 w
    refine ⟨.bool (decide (ms = ns)), ?_, .val _⟩
    simp [execOp, ho, ex, ey, eqGuard, g2, binOp, g1]
theorem oEs {P : Program} {o : Oper} {S : Nat → SV} {T T' : TypeId} {x y : Operand} {c : Nat} (hT : eqsB P T = some c) (k : IntKind) (ms ns : List Int) (ho : o.op = .binOp .eql T x y T' := by exact rfl) (hx : ev S x = .d (.agg (ms.map fun m => .val (.int k m))) := by kernel_rfl) (hy : ev S y = .d (.agg (ns.map fun m => .val (.int k m))) := by kernel_rfl) (h1 : ms.length = c := by exact rfl) (h2 : ns.length = c := by exact rfl) : EOk P o S [] (.d (.val (.bool (decide (ms = ns))))) := e_eqs ho hT hx hy h1 h2
end Go.Fid
set_option linter.unusedVariables false
set_option linter.unusedSimpArgs false
namespace Go.Fid
variable {P : Program} {o : Oper} {S : Nat → SV}
end Go.Fid
namespace Go.Proofs.YtihgdjljnaekmaaGreat
open Go.Fid
theorem avo_encQuat (x : RQuat) : Avoids 1000000 (encQuat x) := .agg (avo_cons (.val _) (avo_cons (.val _) (avo_cons (.val _) (avo_cons (.val _) avo_nil))))
end Go.Proofs.YtihgdjljnaekmaaGreat
namespace Go.Proofs.YtihgdjljnaekmaaGreat
open Go.Fid
set_option maxRecDepth 4000
set_option linter.unusedVariables false
set_option linter.unusedSimpArgs false
theorem ar146 : arrB Tryz.prog 146 = some (4, 3, 1) := by kernel_rfl
theorem cb37 : callB Tryz.prog 37 = true := by kernel_rfl
theorem cb60 : callB Tryz.prog 60 = true := by kernel_rfl
theorem cb88 : callB Tryz.prog 88 = true := by kernel_rfl
theorem cb103 : callB Tryz.prog 103 = true := by kernel_rfl
theorem el60 : elemB Tryz.prog 60 = some (3, 1) := by kernel_rfl
theorem eqs28 : eqsB Tryz.prog 28 = some 4 := by kernel_rfl
theorem fo28_0 : fieldB Tryz.prog 28 0 = some 0 := by kernel_rfl
theorem fo28_1 : fieldB Tryz.prog 28 1 = some 1 := by kernel_rfl
theorem fo28_2 : fieldB Tryz.prog 28 2 = some 2 := by kernel_rfl
theorem fo28_3 : fieldB Tryz.prog 28 3 = some 3 := by kernel_rfl
theorem pl28 : placesB Tryz.prog 28 = some [(0, 1), (1, 1), (2, 1), (3, 1)] := by kernel_rfl
theorem sh28 : shapeB Tryz.prog 28 = some (true, 4) := by kernel_rfl
theorem sh146 : shapeB Tryz.prog 146 = some (true, 4) := by kernel_rfl
theorem ze28 : zeroB Tryz.prog 28 = some [.int .i64 0, .int .i64 0, .int .i64 0, .int .i64 0] := by kernel_rfl
theorem ze146 : zeroB Tryz.prog 146 = some [.int .i64 0, .int .i64 0, .int .i64 0, .int .i64 0] := by kernel_rfl
theorem zo28 : ZOk [.int .i64 0, .int .i64 0, .int .i64 0, .int .i64 0] [.val (.int .i64 0), .val (.int .i64 0), .val (.int .i64 0), .val (.int .i64 0)] := by simp [ZOk, Value.oneCell']
theorem zo146 : ZOk [.int .i64 0, .int .i64 0, .int .i64 0, .int .i64 0] [.val (.int .i64 0), .val (.int .i64 0), .val (.int .i64 0), .val (.int .i64 0)] := by simp [ZOk, Value.oneCell']
theorem q_parts (a b c d : Int) : Takes Tryz.prog 103 [(encQuat (RQuat.mk a b c d))] (encA146 (A4.mk a b c d)) := by
  refine fn_intro Tryz.func103 rfl cb103 rfl ?_
  show PWp _ _ _ _ ⟨[(0, (.d (encQuat (RQuat.mk a b c d))))], []⟩
  refine pwp_seq <| kx [(1, (.ref 0 0)), (2, (.ref 1 0))] [(0, some (bx (encQuat (RQuat.mk a b c d)))), (1, some (bx (encA146 (A4.mk 0 0 0 0))))] (zN (oBx 0) <| zN (oAl 1 ze146 zo146) <| zZ) ?_
  refine pwp_seq <| kx [] [(1, some (bx (encA146 (A4.mk a b c d))))] (zE (oFr fo28_0) <| zR (oL1 sh3) <| zE (oFr fo28_1) <| zR (oL1 sh3) <| zE (oFr fo28_2) <| zR (oL1 sh3) <| zE (oFr fo28_3) <| zR (oL1 sh3) <| zE (oBf ar146 ze146 zo146) <| zT (oSt sh146) <| zZ) ?_
  refine pwp_ret ⟨_, (res_a (cs := (bx (encA146 (A4.mk a b c d)))) (d := (encA146 (A4.mk a b c d))) rfl rfl sh146 rfl rfl .nil), ?_⟩
  rfl
theorem qs_list (a b c d : Int) : Takes Tryz.prog 88 [(encQuat (RQuat.mk a b c d))] (.sl 3 1 (List.map enc_i64 [a, b, c, d])) := by
  refine fn_intro Tryz.func88 rfl cb88 rfl ?_
  show PWp _ _ _ _ ⟨[(0, (.d (encQuat (RQuat.mk a b c d))))], []⟩
  refine pwp_seq <| kx [(1, (.ref 0 0))] [(0, some (bx (encQuat (RQuat.mk a b c d))))] (zN (oBx 0) <| zE (oNl 3 1) <| zZ) ?_
  refine pwp_seq <| kx [(2, (vl 3 1 enc_i64 [a, b, c, d]))] [] (zE (oFr fo28_0) <| zR (oL1 sh3) <| zE (oFr fo28_1) <| zR (oL1 sh3) <| zE (oFr fo28_2) <| zR (oL1 sh3) <| zE (oFr fo28_3) <| zR (oL1 sh3) <| zE (oBs el60 ze3 zo3) <| zM <| zZ) ?_
  refine pwp_ret ⟨_, (.tmp (d := (.sl 3 1 (List.map enc_i64 [a, b, c, d]))) rfl .nil), ?_⟩
  rfl
theorem q_chk (a b c d : Int) : Takes Tryz.prog 60 [(encQuat (RQuat.mk a b c d))] (.val (.int .i64 ((((rotC a b c d) : Nat) : Int)))) := by
  refine fn_intro Tryz.func60 rfl cb60 rfl ?_
  show PWp _ _ _ _ ⟨[(0, (.d (encQuat (RQuat.mk a b c d))))], []⟩
  refine pwp_seq <| kx [(1, (.ref 0 0))] [(0, some (bx (encQuat (RQuat.mk a b c d))))] (zN (oBx 0) <| zM <| zZ) ?_
  refine pwp_seq <| pwp_seq <| kx [(7, (vb (decide ([a, b, c, d] = [0, 0, 0, 0]))))] [] (zR (oLa sh28) <| zE (oBd pl28 ze28 zo28) <| zE (oEs eqs28 .i64 [a, b, c, d] [0, 0, 0, 0]) <| zZ) ?_
  refine pwp_cond (b := (decide ([a, b, c, d] = [0, 0, 0, 0]))) rfl (fun h1 => ?_) (fun h1 => ?_)
  · replace h1 := of_decide_eq_true h1
    refine pwp_seq <| kx [(2, (vin 1))] [] (zM <| zZ) ?_
    refine pwp_ret ⟨_, (.tmp (d := (.val (.int .i64 (((1 : Nat) : Int))))) rfl .nil), ?_⟩
    rw [rotC_z (by simp_all)]; rfl
  · replace h1 := of_decide_eq_false h1
    refine pwp_skip <| pwp_seq <| pwp_seq <| kx [(9, (.d (encA146 (A4.mk a b c d)))), (10, (vin 0))] [] (zR (oLa sh28) <| zE (oCl (q_parts a b c d)) <| zM <| zZ) ?_
    refine pwp_block <| pwp_rounds 20 ?_
    refine pwp_round <| pwp_seq <| kx [(11, (vb true))] [] (zE (oBk true oLt) <| zZ) ?_
    refine pwp_seq <| pwp_cond (b := true) (by kernel_rfl) (fun _ => ?_) (fun h => by cases h)
    refine pwp_skip <| pwp_seq <| pwp_block <| pwp_seq <| kx [(4, (vi a))] [] (zE (oXa ar146 sh3 (fun _ => rfl) 0) <| zM <| zZ) ?_
    refine pwp_seq <| kx [(18, (vb (decide (a < -1048576) || decide (((1048576 : Nat) : Int) < a))))] [] ?_ ?_
    · refine zM <| zE oLt <| zE (oV (vb (decide (a < -1048576))) (mv_ok (by kernel_rfl))) <| ?_
      rcases hb2 : (decide (a < -1048576)) with _ | _
      · replace hb2 := of_decide_eq_false hb2
        exact zM <| zE oGt <| zE oPo <| zZ
      · replace hb2 := of_decide_eq_true hb2
        exact zK <| zK <| zE oPt <| zZ
    refine pwp_cond rfl (fun h3 => ?_) (fun h3 => ?_)
    · refine pwp_seq <| kx [(2, (vin 3))] [] (zM <| zZ) ?_
      refine pwp_ret ⟨_, (.tmp (d := (.val (.int .i64 (((3 : Nat) : Int))))) rfl .nil), ?_⟩
      first | (rw [rotC_l (by simp_all) (by first | (simp_all; done) | (simp_all; omega))]; rfl) | (rw [rotC_0 (by simp_all) (by first | (simp_all; done) | (simp_all; omega))]; rfl)
    · refine pwp_skip <| kx [(10, (vin 1))] [] (zE (oAd 1 (hr := by decide)) <| zM <| zZ) ?_
      refine pwp_again (SimImp.refl _) ?_
      refine pwp_seq <| kx [(11, (vb true))] [] (zE (oBk true oLt) <| zZ) ?_
      refine pwp_seq <| pwp_cond (b := true) (by kernel_rfl) (fun _ => ?_) (fun h => by cases h)
      refine pwp_skip <| pwp_seq <| pwp_block <| pwp_seq <| kx [(4, (vi b))] [] (zE (oXa ar146 sh3 (fun _ => rfl) 1) <| zM <| zZ) ?_
      refine pwp_seq <| kx [(18, (vb (decide (b < -1048576) || decide (((1048576 : Nat) : Int) < b))))] [] ?_ ?_
      · refine zM <| zE oLt <| zE (oV (vb (decide (b < -1048576))) (mv_ok (by kernel_rfl))) <| ?_
        rcases hb4 : (decide (b < -1048576)) with _ | _
        · replace hb4 := of_decide_eq_false hb4
          exact zM <| zE oGt <| zE oPo <| zZ
        · replace hb4 := of_decide_eq_true hb4
          exact zK <| zK <| zE oPt <| zZ
      refine pwp_cond rfl (fun h5 => ?_) (fun h5 => ?_)
      · refine pwp_seq <| kx [(2, (vin 3))] [] (zM <| zZ) ?_
        refine pwp_ret ⟨_, (.tmp (d := (.val (.int .i64 (((3 : Nat) : Int))))) rfl .nil), ?_⟩
        first | (rw [rotC_l (by simp_all) (by first | (simp_all; done) | (simp_all; omega))]; rfl) | (rw [rotC_0 (by simp_all) (by first | (simp_all; done) | (simp_all; omega))]; rfl)
      · refine pwp_skip <| kx [(10, (vin 2))] [] (zE (oAd 2 (hr := by decide)) <| zM <| zZ) ?_
        refine pwp_again (SimImp.refl _) ?_
        refine pwp_seq <| kx [(11, (vb true))] [] (zE (oBk true oLt) <| zZ) ?_
        refine pwp_seq <| pwp_cond (b := true) (by kernel_rfl) (fun _ => ?_) (fun h => by cases h)
        refine pwp_skip <| pwp_seq <| pwp_block <| pwp_seq <| kx [(4, (vi c))] [] (zE (oXa ar146 sh3 (fun _ => rfl) 2) <| zM <| zZ) ?_
        refine pwp_seq <| kx [(18, (vb (decide (c < -1048576) || decide (((1048576 : Nat) : Int) < c))))] [] ?_ ?_
        · refine zM <| zE oLt <| zE (oV (vb (decide (c < -1048576))) (mv_ok (by kernel_rfl))) <| ?_
          rcases hb6 : (decide (c < -1048576)) with _ | _
          · replace hb6 := of_decide_eq_false hb6
            exact zM <| zE oGt <| zE oPo <| zZ
          · replace hb6 := of_decide_eq_true hb6
            exact zK <| zK <| zE oPt <| zZ
        refine pwp_cond rfl (fun h7 => ?_) (fun h7 => ?_)
        · refine pwp_seq <| pwp_sim (wk (l := [(9, (.d (encA146 (A4.mk a b c d)))), (10, (vin 2)), (18, (vb (decide (c < -1048576) || decide (((1048576 : Nat) : Int) < c))))]) (b := [])) ?_
          refine kx [(2, (vin 3))] [] (zM <| zZ) ?_
          refine pwp_ret ⟨_, (.tmp (d := (.val (.int .i64 (((3 : Nat) : Int))))) rfl .nil), ?_⟩
          first | (rw [rotC_l (by simp_all) (by first | (simp_all; done) | (simp_all; omega))]; rfl) | (rw [rotC_0 (by simp_all) (by first | (simp_all; done) | (simp_all; omega))]; rfl)
        · refine pwp_skip <| pwp_sim (wk (l := [(9, (.d (encA146 (A4.mk a b c d)))), (10, (vin 2)), (18, (vb (decide (c < -1048576) || decide (((1048576 : Nat) : Int) < c))))]) (b := [])) ?_
          refine kx [(10, (vin 3))] [] (zE (oAd 3 (hr := by decide)) <| zM <| zZ) ?_
          refine pwp_again (SimImp.refl _) ?_
          refine pwp_seq <| kx [(11, (vb true))] [] (zE (oBk true oLt) <| zZ) ?_
          refine pwp_seq <| pwp_cond (b := true) (by kernel_rfl) (fun _ => ?_) (fun h => by cases h)
          refine pwp_skip <| pwp_seq <| pwp_block <| pwp_seq <| kx [(4, (vi d))] [] (zE (oXa ar146 sh3 (fun _ => rfl) 3) <| zM <| zZ) ?_
          refine pwp_seq <| kx [(18, (vb (decide (d < -1048576) || decide (((1048576 : Nat) : Int) < d))))] [] ?_ ?_
          · refine zM <| zE oLt <| zE (oV (vb (decide (d < -1048576))) (mv_ok (by kernel_rfl))) <| ?_
            rcases hb8 : (decide (d < -1048576)) with _ | _
            · replace hb8 := of_decide_eq_false hb8
              exact zM <| zE oGt <| zE oPo <| zZ
            · replace hb8 := of_decide_eq_true hb8
              exact zK <| zK <| zE oPt <| zZ
          refine pwp_cond rfl (fun h9 => ?_) (fun h9 => ?_)
          · refine pwp_seq <| kx [(2, (vin 3))] [] (zM <| zZ) ?_
            refine pwp_ret ⟨_, (.tmp (d := (.val (.int .i64 (((3 : Nat) : Int))))) rfl .nil), ?_⟩
            first | (rw [rotC_l (by simp_all) (by first | (simp_all; done) | (simp_all; omega))]; rfl) | (rw [rotC_0 (by simp_all) (by first | (simp_all; done) | (simp_all; omega))]; rfl)
          · refine pwp_skip <| kx [(10, (vin 4))] [] (zE (oAd 4 (hr := by decide)) <| zM <| zZ) ?_
            refine pwp_again (SimImp.refl _) ?_
            refine pwp_seq <| kx [(11, (vb false))] [] (zE (oBk false oLt) <| zZ) ?_
            refine pwp_seq <| pwp_cond (b := false) (by kernel_rfl) (fun h => by cases h) (fun _ => ?_)
            refine pwp_exit <| pwp_seq <| kx [(2, (vin 0))] [] (zM <| zZ) ?_
            refine pwp_ret ⟨_, (.tmp (d := (.val (.int .i64 (((0 : Nat) : Int))))) rfl .nil), ?_⟩
            first | (rw [rotC_l (by simp_all) (by first | (simp_all; done) | (simp_all; omega))]; rfl) | (rw [rotC_0 (by simp_all) (by first | (simp_all; done) | (simp_all; omega))]; rfl)
theorem qs_chk (a b c d : Int) : Takes Tryz.prog 37 [(encQuat (RQuat.mk a b c d))] (.val (.int .i64 ((((rotC a b c d) : Nat) : Int)))) := by
  refine fn_intro Tryz.func37 rfl cb37 rfl ?_
  show PWp _ _ _ _ ⟨[(0, (.d (encQuat (RQuat.mk a b c d))))], []⟩
  refine pwp_seq <| kx [(1, (.ref 0 0))] [(0, some (bx (encQuat (RQuat.mk a b c d))))] (zN (oBx 0) <| zM <| zZ) ?_
  refine pwp_seq <| pwp_seq <| kx [(22, (vb ((((a == ((0 : Nat) : Int)) && (b == ((0 : Nat) : Int))) && (c == ((0 : Nat) : Int))) && (d == ((0 : Nat) : Int)))))] [] ?_ ?_
  · refine zE (oFr fo28_0) <| zR (oL1 sh3) <| zE oEq <| zE (oV (vb (a == ((0 : Nat) : Int))) (mv_ok (by kernel_rfl))) <| ?_
    rcases hb1 : (a == ((0 : Nat) : Int)) with _ | _
    · replace hb1 := ne_of_beq_false hb1
      exact zK <| zK <| zK <| zE oPf <| zM <| zK <| zK <| zK <| zE oPf <| zM <| zK <| zK <| zK <| zE oPf <| zZ
    · replace hb1 := eq_of_beq hb1
      refine zE (oFr fo28_1) <| zR (oL1 sh3) <| zE oEq <| zE oPa <| zE (oV (vb (true && (b == ((0 : Nat) : Int)))) (mv_ok (by kernel_rfl))) <| ?_
      rcases hb2 : (true && (b == ((0 : Nat) : Int))) with _ | _
      · exact zK <| zK <| zK <| zE oPf <| zM <| zK <| zK <| zK <| zE oPf <| zZ
      · refine zE (oFr fo28_2) <| zR (oL1 sh3) <| zE oEq <| zE oPa <| zE (oV (vb (true && (c == ((0 : Nat) : Int)))) (mv_ok (by kernel_rfl))) <| ?_
        rcases hb3 : (true && (c == ((0 : Nat) : Int))) with _ | _
        · exact zK <| zK <| zK <| zE oPf <| zZ
        · exact zE (oFr fo28_3) <| zR (oL1 sh3) <| zE oEq <| zE oPa <| zZ
  refine pwp_cond rfl (fun h4 => ?_) (fun h4 => ?_)
  · refine pwp_seq <| kx [(2, (vin 1))] [] (zM <| zZ) ?_
    refine pwp_ret ⟨_, (.tmp (d := (.val (.int .i64 (((1 : Nat) : Int))))) rfl .nil), ?_⟩
    rw [rotC_z (by simp_all)]; rfl
  · refine pwp_skip <| pwp_seq <| kx [(3, (vl 3 1 enc_i64 [a, b, c, d]))] [] (zR (oLa sh28) <| zE (oCl (qs_list a b c d)) <| zM <| zZ) ?_
    refine pwp_seq <| pwp_seq <| kx [(4, (vin 0))] [] (zM <| zZ) ?_
    refine pwp_block <| pwp_rounds 20 ?_
    refine pwp_round <| pwp_seq <| pwp_seq <| kx [(26, (vb true))] [] (zM <| zE (oBk true oLt) <| zZ) ?_
    refine pwp_cond (b := true) (by kernel_rfl) (fun _ => ?_) (fun h => by cases h)
    refine pwp_skip <| pwp_seq <| pwp_block <| pwp_seq <| kx [(40, (vb (decide (((1048576 : Nat) : Int) < a) || decide (a < -1048576))))] [] ?_ ?_
    · refine zM <| zM <| zE (oXs el60 0) <| zE (oC1 sh3) <| zE oGt <| zE (oV (vb (decide (((1048576 : Nat) : Int) < a))) (mv_ok (by kernel_rfl))) <| ?_
      rcases hb5 : (decide (((1048576 : Nat) : Int) < a)) with _ | _
      · replace hb5 := of_decide_eq_false hb5
        exact zM <| zM <| zE (oXs el60 0) <| zE (oC1 sh3) <| zE oLt <| zE oPo <| zZ
      · replace hb5 := of_decide_eq_true hb5
        exact zK <| zK <| zK <| zK <| zK <| zE oPt <| zZ
    refine pwp_cond rfl (fun h6 => ?_) (fun h6 => ?_)
    · refine pwp_seq <| kx [(2, (vin 3))] [] (zM <| zZ) ?_
      refine pwp_ret ⟨_, (.tmp (d := (.val (.int .i64 (((3 : Nat) : Int))))) rfl .nil), ?_⟩
      first | (rw [rotC_l (by simp_all) (by first | (simp_all; done) | (simp_all; omega))]; rfl) | (rw [rotC_0 (by simp_all) (by first | (simp_all; done) | (simp_all; omega))]; rfl)
    · refine pwp_skip <| kx [(4, (vin 1))] [] (zM <| zE (oAd 1 (hr := by decide)) <| zM <| zZ) ?_
      refine pwp_again (SimImp.refl _) ?_
      refine pwp_seq <| pwp_seq <| kx [(26, (vb true))] [] (zM <| zE (oBk true oLt) <| zZ) ?_
      refine pwp_cond (b := true) (by kernel_rfl) (fun _ => ?_) (fun h => by cases h)
      refine pwp_skip <| pwp_seq <| pwp_block <| pwp_seq <| kx [(40, (vb (decide (((1048576 : Nat) : Int) < b) || decide (b < -1048576))))] [] ?_ ?_
      · refine zM <| zM <| zE (oXs el60 1) <| zE (oC1 sh3) <| zE oGt <| zE (oV (vb (decide (((1048576 : Nat) : Int) < b))) (mv_ok (by kernel_rfl))) <| ?_
        rcases hb7 : (decide (((1048576 : Nat) : Int) < b)) with _ | _
        · replace hb7 := of_decide_eq_false hb7
          exact zM <| zM <| zE (oXs el60 1) <| zE (oC1 sh3) <| zE oLt <| zE oPo <| zZ
        · replace hb7 := of_decide_eq_true hb7
          exact zK <| zK <| zK <| zK <| zK <| zE oPt <| zZ
      refine pwp_cond rfl (fun h8 => ?_) (fun h8 => ?_)
      · refine pwp_seq <| kx [(2, (vin 3))] [] (zM <| zZ) ?_
        refine pwp_ret ⟨_, (.tmp (d := (.val (.int .i64 (((3 : Nat) : Int))))) rfl .nil), ?_⟩
        first | (rw [rotC_l (by simp_all) (by first | (simp_all; done) | (simp_all; omega))]; rfl) | (rw [rotC_0 (by simp_all) (by first | (simp_all; done) | (simp_all; omega))]; rfl)
      · refine pwp_skip <| kx [(4, (vin 2))] [] (zM <| zE (oAd 2 (hr := by decide)) <| zM <| zZ) ?_
        refine pwp_again (SimImp.refl _) ?_
        refine pwp_seq <| pwp_seq <| kx [(26, (vb true))] [] (zM <| zE (oBk true oLt) <| zZ) ?_
        refine pwp_cond (b := true) (by kernel_rfl) (fun _ => ?_) (fun h => by cases h)
        refine pwp_skip <| pwp_seq <| pwp_block <| pwp_seq <| kx [(40, (vb (decide (((1048576 : Nat) : Int) < c) || decide (c < -1048576))))] [] ?_ ?_
        · refine zM <| zM <| zE (oXs el60 2) <| zE (oC1 sh3) <| zE oGt <| zE (oV (vb (decide (((1048576 : Nat) : Int) < c))) (mv_ok (by kernel_rfl))) <| ?_
          rcases hb9 : (decide (((1048576 : Nat) : Int) < c)) with _ | _
          · replace hb9 := of_decide_eq_false hb9
            exact zM <| zM <| zE (oXs el60 2) <| zE (oC1 sh3) <| zE oLt <| zE oPo <| zZ
          · replace hb9 := of_decide_eq_true hb9
            exact zK <| zK <| zK <| zK <| zK <| zE oPt <| zZ
        refine pwp_cond rfl (fun h10 => ?_) (fun h10 => ?_)
        · refine pwp_seq <| kx [(2, (vin 3))] [] (zM <| zZ) ?_
          refine pwp_ret ⟨_, (.tmp (d := (.val (.int .i64 (((3 : Nat) : Int))))) rfl .nil), ?_⟩
          first | (rw [rotC_l (by simp_all) (by first | (simp_all; done) | (simp_all; omega))]; rfl) | (rw [rotC_0 (by simp_all) (by first | (simp_all; done) | (simp_all; omega))]; rfl)
        · refine pwp_skip <| kx [(4, (vin 3))] [] (zM <| zE (oAd 3 (hr := by decide)) <| zM <| zZ) ?_
          refine pwp_again (SimImp.refl _) ?_
          refine pwp_seq <| pwp_seq <| kx [(26, (vb true))] [] (zM <| zE (oBk true oLt) <| zZ) ?_
          refine pwp_cond (b := true) (by kernel_rfl) (fun _ => ?_) (fun h => by cases h)
          refine pwp_skip <| pwp_seq <| pwp_block <| pwp_seq <| pwp_sim (wk (l := [(3, (vl 3 1 enc_i64 [a, b, c, d])), (4, (vin 3)), (26, (vb true))]) (b := [])) ?_
          refine kx [(40, (vb (decide (((1048576 : Nat) : Int) < d) || decide (d < -1048576))))] [] ?_ ?_
          · refine zM <| zM <| zE (oXs el60 3) <| zE (oC1 sh3) <| zE oGt <| zE (oV (vb (decide (((1048576 : Nat) : Int) < d))) (mv_ok (by kernel_rfl))) <| ?_
            rcases hb11 : (decide (((1048576 : Nat) : Int) < d)) with _ | _
            · replace hb11 := of_decide_eq_false hb11
              exact zM <| zM <| zE (oXs el60 3) <| zE (oC1 sh3) <| zE oLt <| zE oPo <| zZ
            · replace hb11 := of_decide_eq_true hb11
              exact zK <| zK <| zK <| zK <| zK <| zE oPt <| zZ
          refine pwp_cond rfl (fun h12 => ?_) (fun h12 => ?_)
          · refine pwp_seq <| kx [(2, (vin 3))] [] (zM <| zZ) ?_
            refine pwp_ret ⟨_, (.tmp (d := (.val (.int .i64 (((3 : Nat) : Int))))) rfl .nil), ?_⟩
            first | (rw [rotC_l (by simp_all) (by first | (simp_all; done) | (simp_all; omega))]; rfl) | (rw [rotC_0 (by simp_all) (by first | (simp_all; done) | (simp_all; omega))]; rfl)
          · refine pwp_skip <| kx [(4, (vin 4))] [] (zM <| zE (oAd 4 (hr := by decide)) <| zM <| zZ) ?_
            refine pwp_again (SimImp.refl _) ?_
            refine pwp_seq <| pwp_seq <| kx [(26, (vb false))] [] (zM <| zE (oBk false oLt) <| zZ) ?_
            refine pwp_cond (b := false) (by kernel_rfl) (fun h => by cases h) (fun _ => ?_)
            refine pwp_exit <| pwp_seq <| kx [(2, (vin 0))] [] (zM <| zZ) ?_
            refine pwp_ret ⟨_, (.tmp (d := (.val (.int .i64 (((0 : Nat) : Int))))) rfl .nil), ?_⟩
            first | (rw [rotC_l (by simp_all) (by first | (simp_all; done) | (simp_all; omega))]; rfl) | (rw [rotC_0 (by simp_all) (by first | (simp_all; done) | (simp_all; omega))]; rfl)
end Go.Proofs.YtihgdjljnaekmaaGreat
namespace Go.Proofs.YtihgdjljnaekmaaGreat
open Go.Fid
set_option maxRecDepth 4000
set_option linter.unusedVariables false
set_option linter.unusedSimpArgs false
theorem cb107 : callB Tryz.prog 107 = true := by kernel_rfl
theorem qr_norm (a b c d : Int) (ha : -1048576 ≤ a ∧ a ≤ 1048576) (hb : -1048576 ≤ b ∧ b ≤ 1048576) (hc : -1048576 ≤ c ∧ c ≤ 1048576) (hd : -1048576 ≤ d ∧ d ≤ 1048576) : Takes Tryz.prog 107 [(encQuat (RQuat.mk a b c d))] (.val (.int .i64 ((nq a b c d)))) := by
  have saa := sq_b ha ha
  have sab := sq_b ha hb
  have sac := sq_b ha hc
  have sad := sq_b ha hd
  have sbb := sq_b hb hb
  have sbc := sq_b hb hc
  have sbd := sq_b hb hd
  have scc := sq_b hc hc
  have scd := sq_b hc hd
  have sdd := sq_b hd hd
  refine fn_intro Tryz.func107 rfl cb107 rfl ?_
  show PWp _ _ _ _ ⟨[(0, (.d (encQuat (RQuat.mk a b c d))))], []⟩
  refine pwp_seq <| kx [(1, (.ref 0 0))] [(0, some (bx (encQuat (RQuat.mk a b c d))))] (zN (oBx 0) <| zM <| zZ) ?_
  refine pwp_seq <| kx [(2, (vi ((((a * a) + (b * b)) + (c * c)) + (d * d))))] [] (zE (oFr fo28_0) <| zR (oL1 sh3) <| zE (oFr fo28_0) <| zR (oL1 sh3) <| zE (zMl (a * a) (hr := by exact (wAny rfl (by simp only [kLo]; omega) (by simp only [kHi]; omega)))) <| zE (oFr fo28_1) <| zR (oL1 sh3) <| zE (oFr fo28_1) <| zR (oL1 sh3) <| zE (zMl (b * b) (hr := by exact (wAny rfl (by simp only [kLo]; omega) (by simp only [kHi]; omega)))) <| zE (zAd ((a * a) + (b * b)) (hr := by exact (wAny rfl (by simp only [kLo]; omega) (by simp only [kHi]; omega)))) <| zE (oFr fo28_2) <| zR (oL1 sh3) <| zE (oFr fo28_2) <| zR (oL1 sh3) <| zE (zMl (c * c) (hr := by exact (wAny rfl (by simp only [kLo]; omega) (by simp only [kHi]; omega)))) <| zE (zAd (((a * a) + (b * b)) + (c * c)) (hr := by exact (wAny rfl (by simp only [kLo]; omega) (by simp only [kHi]; omega)))) <| zE (oFr fo28_3) <| zR (oL1 sh3) <| zE (oFr fo28_3) <| zR (oL1 sh3) <| zE (zMl (d * d) (hr := by exact (wAny rfl (by simp only [kLo]; omega) (by simp only [kHi]; omega)))) <| zE (zAd ((((a * a) + (b * b)) + (c * c)) + (d * d)) (hr := by exact (wAny rfl (by simp only [kLo]; omega) (by simp only [kHi]; omega)))) <| zM <| zZ) ?_
  refine pwp_ret ⟨_, (.tmp (d := (.val (.int .i64 (((((a * a) + (b * b)) + (c * c)) + (d * d)))))) rfl .nil), ?_⟩
  rfl
end Go.Proofs.YtihgdjljnaekmaaGreat
set_option linter.unusedVariables false
set_option linter.unusedSimpArgs false
namespace Go.Fid
variable {P : Program} {o : Oper} {S : Nat → SV}
end Go.Fid
set_option linter.unusedVariables false
set_option linter.unusedSimpArgs false
namespace Go.Fid
open Go.RowKit (Below)
section
variable {P : Program} {o : Oper} {st : PS}
end
section
variable {P : Program} {o : Oper} {S : Nat → SV}
end
end Go.Fid
set_option linter.unusedVariables false
set_option linter.unusedSimpArgs false
namespace Go.Fid
open Go.RowKit (Below)
section
variable {P : Program} {o : Oper} {S : SL}
end
end Go.Fid
