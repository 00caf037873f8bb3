/- Part 21 of a proof: rules, plain facts, and functions walked. -/
import Derived.Test.YtbecgnplakngdaaGreatM20
import Derived.Test.YtbecgnplakngdaaGreatM11
set_option linter.unusedVariables false
set_option linter.unusedSimpArgs false
namespace Go.Fid
variable {P : Program} {o : Oper} {S : Nat → SV}
theorem e_nckd {x : Operand} {t : TypeId} {q : Nat} {cs : List qF} (ho : o.op = .nilCheck x) (hx : ev S x = .d (.cptr t cs q)) : vI P o S [] (.d (.cptr t cs q)) :=
  vI.same fun a' w D β hop _ => by
    have hp := hop x (by simp [ho, Op.operands])
    rw [hx] at hp
    generalize hvv : a'.eval x = v at hp
    cases hp with
    | cptr g p u hD hu h1 hr =>
      exact ⟨.pointer (some ⟨g, p + q, none⟩), by simp [execOp, ho, hvv], xK.cptr g p u hD hu h1 hr⟩
theorem oNd {x : Operand} {t : TypeId} {q : Nat} {cs : List qF} (ho : o.op = .nilCheck x := by exact rfl) (hx : ev S x = .d (.cptr t cs q) := by exact rfl) : vI P o S [] (.d (.cptr t cs q)) := e_nckd ho hx
theorem oXc {T E t : TypeId} {x y : Operand} {k : IntKind} {N s p : Nat} {cs : List qF} (hT : dA P T = some (N, E, s)) (j : Nat) (ho : o.op = .indexAddr T x y := by exact rfl) (hx : ev S x = .d (.cptr t cs p) := by exact rfl) (hi : ev S y = .d (.val (.int k ((j : Nat) : Int))) := by exact rfl) (h1 : Nat.blt j N = true := by kernel_rfl) : vI P o S [] (.d (.cptr t cs (p + j * s))) :=
  e_index_acptr ho hT hx hi (Int.natCast_nonneg j) (Int.ofNat_lt.2 (Nat.le_of_ble_eq_true h1))
end Go.Fid
namespace Go.Proofs.YtbecgnplakngdaaGreat
open Go.Fid
theorem avo_encI (h152 : 152 ≠ 1000000) (x : jF) : yW 1000000 (jH x) := .agg (nG (.val _) (nG (avo_vals h152 _) avo_nil))
theorem avo_encR (h152 : 152 ≠ 1000000) (x : kG) : yW 1000000 (jO x) := .agg (nG (.val _) (nG (avo_vals h152 _) (nG (.val _) (nG (avo_vals h152 _) avo_nil))))
theorem avo_sl_40 (h : 40 ≠ 1000000) (h152 : 152 ≠ 1000000) (l : List jF) : yW 1000000 (.sl 40 2 (List.map jH l)) := avo_slF h (fun x => avo_encI h152 x) l
end Go.Proofs.YtbecgnplakngdaaGreat
