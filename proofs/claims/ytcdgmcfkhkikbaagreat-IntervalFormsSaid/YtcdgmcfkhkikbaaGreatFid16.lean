import Derived.Test.YtcdgmcfkhkikbaaGreatFid15
/-
  Short names and short rules for what a printer prints. For any program.
-/
set_option linter.unusedVariables false
namespace Go.Fid
abbrev vi (z : Int) : SV := .d (.val (.int .i64 z))
abbrev vin (n : Nat) : SV := .d (.val (.int .i64 (n : Int)))
abbrev vqn (n : Nat) : SV := .d (.val (.int .u64 (n : Int)))
abbrev vwn (n : Nat) : SV := .d (.val (.int .u32 (n : Int)))
abbrev vb (b : Bool) : SV := .d (.val (.bool b))
abbrev vl {α : Type} (E z : Nat) (F : α → Dat) (L : List α) : SV := .d (.sl E z (L.map F))
abbrev bm {α : Type} (F : α → Dat) (L : List α) : List SV := L.map (fun g => SV.d (F g))
def goB (n : Fr) (ops : Array Oper) (S : SL) (o : Oper) : Option Tmp := match o.dst with
  | some d => match guardSt ops S o with
    | some true => bif dstB n (some d) then some d else none
    | _ => none
  | none => none
theorem goB_spec {n : Fr} {ops : Array Oper} {S : SL} {o : Oper} {d : Tmp} (h : goB n ops S o = some d) : o.dst = some d ∧ guardSt ops S o = some true ∧ dstB n (some d) = true := by
  unfold goB at h
  split at h
  · rename_i d' hd
    split at h
    · rename_i hg
      cases hb : dstB n (some d') with
      | true => rw [hb] at h; injection h with h; subst h; exact ⟨hd, hg, hb⟩
      | false => rw [hb] at h; cases h
    · cases h
  · cases h
section
variable {P : Program} {n : Fr} {ops : Array Oper} {S S' : SL} {B B' : BS} {l : List Oper} {o : Oper} {news : List Nat} {acc0 : List (List Nat × List Nat)}
theorem sE' {d : Tmp} {x : SV} (h : EOk P o (sget S) [] x) (g : goB n ops S o = some d) (r : SRun P n ops ((d, x) :: S) B l S' B') : SRun P n ops S B (o :: l) S' B' := sE h (goB_spec g).1 (goB_spec g).2.1 (goB_spec g).2.2 r
theorem dE' {d : Tmp} {x : SV} (h : EOk P o (sget S) [] x) (g : goB n ops S o = some d) (hn : clearR ops S o news x = true) (r : DRun P n ops news ((d, x) :: S) B l (acc0 ++ [([], [])]) S' B') : DRun P n ops news S B (o :: l) acc0 S' B' := dE h (goB_spec g).1 (goB_spec g).2.1 (goB_spec g).2.2 hn r
theorem e_bk {S : Nat → SV} {b c : Bool} (h : EOk P o S [] (.d (.val (.bool b)))) (e : b = c) : EOk P o S [] (.d (.val (.bool c))) := e ▸ h
def mvB (o : Oper) : Option Operand := match o.op with
  | .move x => some x
  | .assign x => some x
  | _ => none
theorem e_mv {x : Operand} {y : SV} {S : Nat → SV} (ho : mvB o = some x) (hx : ev S x = y) : EOk P o S [] y := by
  unfold mvB at ho
  split at ho
  · rename_i x' h; injection ho with ho; subst ho; exact e_mov h hx
  · rename_i x' h; injection ho with ho; subst ho; exact e_asg h hx
  · cases ho
def mvS (S : SL) (o : Oper) : Option SV := (mvB o).map (ev (sget S))
theorem e_mvS {y : SV} {S : SL} (h : mvS S o = some y) : EOk P o (sget S) [] y := by
  unfold mvS at h
  cases hm : mvB o with
  | none => rw [hm] at h; cases h
  | some x => rw [hm] at h; injection h with h; exact e_mv hm h
theorem sM {d : Tmp} (y : SV) (h : mvS S o = some y) (g : goB n ops S o = some d) (r : SRun P n ops ((d, y) :: S) B l S' B') : SRun P n ops S B (o :: l) S' B' := sE' (e_mvS h) g r
theorem dM {d : Tmp} (y : SV) (h : mvS S o = some y) (g : goB n ops S o = some d) (hn : clearR ops S o news y = true) (r : DRun P n ops news ((d, y) :: S) B l (acc0 ++ [([], [])]) S' B') : DRun P n ops news S B (o :: l) acc0 S' B' := dE' (e_mvS h) g hn r
end
end Go.Fid
