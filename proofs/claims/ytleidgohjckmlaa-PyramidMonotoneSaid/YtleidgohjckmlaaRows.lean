/-
  No cell of these rows narrows 'for every input' (looked for: loops, veiled, ifaces, maps, wideKeys, modest, calm, conditions, laid).
  DERIVED. THE GIVEN ROWS OF THIS SEAT. 3 by the template 'for every input the law returns true; each argument reads behind the call as it read before'; 0 by the template 'total and deterministic' (their statements: YtleidgohjckmlaaTotals.lean).
  GIVEN WITH THE SEED: the statements are not yours to turn. If you find one false, say at which input.
  Laid BY PROGRAM, IN A SANDBOX (cutbox-rows.mjs): the forced cells as the released guide's own fill.sh prints them over the translation 5ccfa9d1f40e16c6… (all of the seat's roots in one cut). By AI agents, Wed Nov 11 2026. No macro, syntax, notation, axiom, sorry.
-/
import Derived.Test.YtleidgohjckmlaaChecked
import GoSem.Claim
import GoSem.ClaimJoined
import GoSem.ClaimMapViews
import Derived.JoinedTies
import Derived.KernelRfl
namespace Go.Proofs.Ytleidgohjckmlaa
/- THE CELL 'sum', in the pinned program and in every row, IS THE sha256 OF THE DUMP (.gsa) THAT YtleidgohjckmlaaProg.lean LOADS. Nothing in Lean hashes anything: it is a label: what it is worth is what the hold of that sum in a sandbox is worth. -/
noncomputable def Try.pinned : Pinned := { name := "ytleidgohjckmlaa", sum := "5ccfa9d1f40e16c6a0d68bce6dd10b3edad689cc404928a2a7cdcf7be3457554", checked := Try.checked }
namespace Rows
def none {H : Type} : Left H := { results := [], args := [] }

/-- 'fiduciallaw16.PyramidSmooths': WHATEVER THE INPUT: true; the input reads as it did. -/
def pyramidSmoothsSpec : ChangeSpec := { name := "pyramidSmooths", fn := fun _ => fun
  | [d] => { results := [.lit (.bool true)], args := [d] }
  | _ => none }
def pyramidSmoothsRow : OpenClaim := { program := "ytleidgohjckmlaa", sum := "5ccfa9d1f40e16c6a0d68bce6dd10b3edad689cc404928a2a7cdcf7be3457554", func := "fiducial/fiduciallaw16.PyramidSmooths", spec := "pyramidSmooths", unfollowed := true, recurses := true, apart := false }
def PyramidSmoothsSaid : Prop := pyramidSmoothsRow.holds Try.pinned (OpenSpec.ofChange pyramidSmoothsSpec)

/-- ITS FALSE NEIGHBOUR: 'it returns false'. Refute it at one input. -/
def pyramidSmoothsWrong : ChangeSpec := { name := "pyramidSmooths", fn := fun _ => fun
  | [d] => { results := [.lit (.bool false)], args := [d] }
  | _ => none }
def PyramidSmoothsWrongFalsely : Prop := pyramidSmoothsRow.holds Try.pinned (OpenSpec.ofChange pyramidSmoothsWrong)

/-- 'fiduciallaw16.PyramidCommutes': WHATEVER THE INPUT: true; the input reads as it did. -/
def pyramidCommutesSpec : ChangeSpec := { name := "pyramidCommutes", fn := fun _ => fun
  | [d1, d2] => { results := [.lit (.bool true)], args := [d1, d2] }
  | _ => none }
def pyramidCommutesRow : OpenClaim := { program := "ytleidgohjckmlaa", sum := "5ccfa9d1f40e16c6a0d68bce6dd10b3edad689cc404928a2a7cdcf7be3457554", func := "fiducial/fiduciallaw16.PyramidCommutes", spec := "pyramidCommutes", unfollowed := true, recurses := true, apart := false }
def PyramidCommutesSaid : Prop := pyramidCommutesRow.holds Try.pinned (OpenSpec.ofChange pyramidCommutesSpec)

/-- ITS FALSE NEIGHBOUR: 'it returns false'. Refute it at one input. -/
def pyramidCommutesWrong : ChangeSpec := { name := "pyramidCommutes", fn := fun _ => fun
  | [d1, d2] => { results := [.lit (.bool false)], args := [d1, d2] }
  | _ => none }
def PyramidCommutesWrongFalsely : Prop := pyramidCommutesRow.holds Try.pinned (OpenSpec.ofChange pyramidCommutesWrong)

/-- 'fiduciallaw16.PyramidMonotone': WHATEVER THE INPUT: true; the input reads as it did. -/
def pyramidMonotoneSpec : ChangeSpec := { name := "pyramidMonotone", fn := fun _ => fun
  | [d1, d2] => { results := [.lit (.bool true)], args := [d1, d2] }
  | _ => none }
def pyramidMonotoneRow : OpenClaim := { program := "ytleidgohjckmlaa", sum := "5ccfa9d1f40e16c6a0d68bce6dd10b3edad689cc404928a2a7cdcf7be3457554", func := "fiducial/fiduciallaw16.PyramidMonotone", spec := "pyramidMonotone", unfollowed := true, recurses := true, apart := false }
def PyramidMonotoneSaid : Prop := pyramidMonotoneRow.holds Try.pinned (OpenSpec.ofChange pyramidMonotoneSpec)

/-- ITS FALSE NEIGHBOUR: 'it returns false'. Refute it at one input. -/
def pyramidMonotoneWrong : ChangeSpec := { name := "pyramidMonotone", fn := fun _ => fun
  | [d1, d2] => { results := [.lit (.bool false)], args := [d1, d2] }
  | _ => none }
def PyramidMonotoneWrongFalsely : Prop := pyramidMonotoneRow.holds Try.pinned (OpenSpec.ofChange pyramidMonotoneWrong)

/- THE SECOND FORM. 'bulk': how many values and letters a reading holds, each counted each time it is reached (what is shared counts as often as it is met; a slice's spare places count too). A statement '..UptoSaid' is the law's where the arguments, and the package variables that the reading takes, are together of bulk at most 1048576: NARROWER than '..Said'. Prove '..Said' where nothing that the law and all that it calls make is longer than what came in: it says more and counts as full. Else prove '..UptoSaid'. A law counts once. -/
mutual
def uptoBulk {H : Type} : DataW H → Nat
  | .lit (.string bytes) => bytes.length + 1
  | .lit _ => 1
  | .nil => 1
  | .ptr d => uptoBulk d + 1
  | .slice elems spare => uptoBulkAll elems + uptoBulkAll spare + 1
  | .agg parts => uptoBulkAll parts + 1
  | .iface _ d => uptoBulk d + 1
  | .map entries => uptoBulkEntries entries + 1
  | .held _ => 1
def uptoBulkAll {H : Type} : List (DataW H) → Nat
  | [] => 0
  | d :: r => uptoBulk d + uptoBulkAll r
def uptoBulkEntries {H : Type} : List (Lit × DataW H) → Nat
  | [] => 0
  | x :: r => uptoBulkEntry x + uptoBulkEntries r
def uptoBulkEntry {H : Type} : Lit × DataW H → Nat
  | (.string bytes, d) => bytes.length + uptoBulk d + 1
  | (_, d) => uptoBulk d + 1
 end
def uptoSmall : (H : Type) → List (DataW H) → Bool := fun _ ds => decide (uptoBulkAll ds ≤ 1048576)
def OpenSpec.upto (s : _root_.Go.ChangeSpec) : _root_.Go.OpenSpec := { _root_.Go.OpenSpec.ofChange s with cond := some uptoSmall }

/-- 'fiduciallaw16.PyramidSmooths', WHERE WHAT IT READS IS OF BULK AT MOST 1048576: true; the input reads as it did. -/
def pyramidSmoothsUptoRow : OpenClaim := { program := "ytleidgohjckmlaa", sum := "5ccfa9d1f40e16c6a0d68bce6dd10b3edad689cc404928a2a7cdcf7be3457554", func := "fiducial/fiduciallaw16.PyramidSmooths", spec := "pyramidSmooths", unfollowed := true, recurses := true, apart := false, narrowed := true }
def PyramidSmoothsUptoSaid : Prop := pyramidSmoothsUptoRow.holds Try.pinned (OpenSpec.upto pyramidSmoothsSpec)

/-- 'fiduciallaw16.PyramidCommutes', WHERE WHAT IT READS IS OF BULK AT MOST 1048576: true; the input reads as it did. -/
def pyramidCommutesUptoRow : OpenClaim := { program := "ytleidgohjckmlaa", sum := "5ccfa9d1f40e16c6a0d68bce6dd10b3edad689cc404928a2a7cdcf7be3457554", func := "fiducial/fiduciallaw16.PyramidCommutes", spec := "pyramidCommutes", unfollowed := true, recurses := true, apart := false, narrowed := true }
def PyramidCommutesUptoSaid : Prop := pyramidCommutesUptoRow.holds Try.pinned (OpenSpec.upto pyramidCommutesSpec)

/-- 'fiduciallaw16.PyramidMonotone', WHERE WHAT IT READS IS OF BULK AT MOST 1048576: true; the input reads as it did. -/
def pyramidMonotoneUptoRow : OpenClaim := { program := "ytleidgohjckmlaa", sum := "5ccfa9d1f40e16c6a0d68bce6dd10b3edad689cc404928a2a7cdcf7be3457554", func := "fiducial/fiduciallaw16.PyramidMonotone", spec := "pyramidMonotone", unfollowed := true, recurses := true, apart := false, narrowed := true }
def PyramidMonotoneUptoSaid : Prop := pyramidMonotoneUptoRow.holds Try.pinned (OpenSpec.upto pyramidMonotoneSpec)

end Rows
end Go.Proofs.Ytleidgohjckmlaa
