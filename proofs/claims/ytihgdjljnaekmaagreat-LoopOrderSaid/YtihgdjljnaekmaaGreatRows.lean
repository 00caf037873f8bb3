/-
  No cell of these rows narrows 'for every input' (looked for: loops, veiled, ifaces, maps, wideKeys, modest, calm, conditions, laid).
  DERIVED. THE GIVEN ROWS OF THIS SEAT. 10 by the template 'for every input the law returns true; each argument reads behind the call as it read before'; 0 by the template 'total and deterministic' (their statements: YtihgdjljnaekmaaGreatTotals.lean).
  GIVEN WITH THE SEED: the statements are not yours to turn. If you find one false, say at which input.
  Laid BY PROGRAM, IN A SANDBOX (cutbox-rows.mjs): the forced cells as the released guide's own fill.sh prints them over the translation fd2aeb025faaf6cf… (all of the seat's roots in one cut). By AI agents, Wed Nov 11 2026. No macro, syntax, notation, axiom, sorry.
-/
import Derived.Test.YtihgdjljnaekmaaGreatChecked
import GoSem.Claim
import GoSem.ClaimJoined
import GoSem.ClaimMapViews
import Derived.JoinedTies
import Derived.KernelRfl
namespace Go.Proofs.YtihgdjljnaekmaaGreat
/- THE CELL 'sum', in the pinned program and in every row, IS THE sha256 OF THE DUMP (.gsa) THAT YtihgdjljnaekmaaGreatProg.lean LOADS. Nothing in Lean hashes anything: it is a label: what it is worth is what the hold of that sum in a sandbox is worth. -/
noncomputable def Tryz.pinned : Pinned := { name := "ytihgdjljnaekmaagreat", sum := "fd2aeb025faaf6cffd17c03bde46238d765ba1f233b44f5ae94e139e4145ed88", checked := Tryz.checked }
namespace Rows
def none {H : Type} : Left H := { results := [], args := [] }

/-- 'fiducialtop.TopTurns': WHATEVER THE INPUT: true; the input reads as it did. -/
def topTurnsSpec : ChangeSpec := { name := "topTurns", fn := fun _ => fun
  | [d1, d2, d3] => { results := [.lit (.bool true)], args := [d1, d2, d3] }
  | _ => none }
def topTurnsRow : OpenClaim := { program := "ytihgdjljnaekmaagreat", sum := "fd2aeb025faaf6cffd17c03bde46238d765ba1f233b44f5ae94e139e4145ed88", func := "fiducial/fiducialtop.TopTurns", spec := "topTurns", unfollowed := true, recurses := true, plainKeys := false, apart := false }
def TopTurnsSaid : Prop := topTurnsRow.holds Tryz.pinned (OpenSpec.ofChange topTurnsSpec)

/-- ITS FALSE NEIGHBOUR: 'it returns false'. Refute it at one input. -/
def topTurnsWrong : ChangeSpec := { name := "topTurns", fn := fun _ => fun
  | [d1, d2, d3] => { results := [.lit (.bool false)], args := [d1, d2, d3] }
  | _ => none }
def TopTurnsWrongFalsely : Prop := topTurnsRow.holds Tryz.pinned (OpenSpec.ofChange topTurnsWrong)

/-- 'fiduciallaw32.LoopTrees': WHATEVER THE INPUT: true; the input reads as it did. -/
def loopTreesSpec : ChangeSpec := { name := "loopTrees", fn := fun _ => fun
  | [d1, d2] => { results := [.lit (.bool true)], args := [d1, d2] }
  | _ => none }
def loopTreesRow : OpenClaim := { program := "ytihgdjljnaekmaagreat", sum := "fd2aeb025faaf6cffd17c03bde46238d765ba1f233b44f5ae94e139e4145ed88", func := "fiducial/fiduciallaw32.LoopTrees", spec := "loopTrees", unfollowed := true, recurses := true, plainKeys := false, apart := false }
def LoopTreesSaid : Prop := loopTreesRow.holds Tryz.pinned (OpenSpec.ofChange loopTreesSpec)

/-- ITS FALSE NEIGHBOUR: 'it returns false'. Refute it at one input. -/
def loopTreesWrong : ChangeSpec := { name := "loopTrees", fn := fun _ => fun
  | [d1, d2] => { results := [.lit (.bool false)], args := [d1, d2] }
  | _ => none }
def LoopTreesWrongFalsely : Prop := loopTreesRow.holds Tryz.pinned (OpenSpec.ofChange loopTreesWrong)

/-- 'fiduciallaw32.LoopAround': WHATEVER THE INPUT: true; the input reads as it did. -/
def loopAroundSpec : ChangeSpec := { name := "loopAround", fn := fun _ => fun
  | [d1, d2, d3] => { results := [.lit (.bool true)], args := [d1, d2, d3] }
  | _ => none }
def loopAroundRow : OpenClaim := { program := "ytihgdjljnaekmaagreat", sum := "fd2aeb025faaf6cffd17c03bde46238d765ba1f233b44f5ae94e139e4145ed88", func := "fiducial/fiduciallaw32.LoopAround", spec := "loopAround", unfollowed := true, recurses := true, plainKeys := false, apart := false }
def LoopAroundSaid : Prop := loopAroundRow.holds Tryz.pinned (OpenSpec.ofChange loopAroundSpec)

/-- ITS FALSE NEIGHBOUR: 'it returns false'. Refute it at one input. -/
def loopAroundWrong : ChangeSpec := { name := "loopAround", fn := fun _ => fun
  | [d1, d2, d3] => { results := [.lit (.bool false)], args := [d1, d2, d3] }
  | _ => none }
def LoopAroundWrongFalsely : Prop := loopAroundRow.holds Tryz.pinned (OpenSpec.ofChange loopAroundWrong)

/-- 'fiduciallaw32.LoopSelects': WHATEVER THE INPUT: true; the input reads as it did. -/
def loopSelectsSpec : ChangeSpec := { name := "loopSelects", fn := fun _ => fun
  | [d1, d2, d3] => { results := [.lit (.bool true)], args := [d1, d2, d3] }
  | _ => none }
def loopSelectsRow : OpenClaim := { program := "ytihgdjljnaekmaagreat", sum := "fd2aeb025faaf6cffd17c03bde46238d765ba1f233b44f5ae94e139e4145ed88", func := "fiducial/fiduciallaw32.LoopSelects", spec := "loopSelects", unfollowed := true, recurses := true, plainKeys := false, apart := false }
def LoopSelectsSaid : Prop := loopSelectsRow.holds Tryz.pinned (OpenSpec.ofChange loopSelectsSpec)

/-- ITS FALSE NEIGHBOUR: 'it returns false'. Refute it at one input. -/
def loopSelectsWrong : ChangeSpec := { name := "loopSelects", fn := fun _ => fun
  | [d1, d2, d3] => { results := [.lit (.bool false)], args := [d1, d2, d3] }
  | _ => none }
def LoopSelectsWrongFalsely : Prop := loopSelectsRow.holds Tryz.pinned (OpenSpec.ofChange loopSelectsWrong)

/-- 'fiduciallaw32.LoopWrong': WHATEVER THE INPUT: true; the input reads as it did. -/
def loopWrongSpec : ChangeSpec := { name := "loopWrong", fn := fun _ => fun
  | [d1, d2, d3] => { results := [.lit (.bool true)], args := [d1, d2, d3] }
  | _ => none }
def loopWrongRow : OpenClaim := { program := "ytihgdjljnaekmaagreat", sum := "fd2aeb025faaf6cffd17c03bde46238d765ba1f233b44f5ae94e139e4145ed88", func := "fiducial/fiduciallaw32.LoopWrong", spec := "loopWrong", unfollowed := true, recurses := true, plainKeys := false, apart := false }
def LoopWrongSaid : Prop := loopWrongRow.holds Tryz.pinned (OpenSpec.ofChange loopWrongSpec)

/-- ITS FALSE NEIGHBOUR: 'it returns false'. Refute it at one input. -/
def loopWrongWrong : ChangeSpec := { name := "loopWrong", fn := fun _ => fun
  | [d1, d2, d3] => { results := [.lit (.bool false)], args := [d1, d2, d3] }
  | _ => none }
def LoopWrongWrongFalsely : Prop := loopWrongRow.holds Tryz.pinned (OpenSpec.ofChange loopWrongWrong)

/-- 'fiduciallaw32.LoopAbsolute': WHATEVER THE INPUT: true; the input reads as it did. -/
def loopAbsoluteSpec : ChangeSpec := { name := "loopAbsolute", fn := fun _ => fun
  | [d1, d2] => { results := [.lit (.bool true)], args := [d1, d2] }
  | _ => none }
def loopAbsoluteRow : OpenClaim := { program := "ytihgdjljnaekmaagreat", sum := "fd2aeb025faaf6cffd17c03bde46238d765ba1f233b44f5ae94e139e4145ed88", func := "fiducial/fiduciallaw32.LoopAbsolute", spec := "loopAbsolute", unfollowed := true, recurses := true, plainKeys := false, apart := false }
def LoopAbsoluteSaid : Prop := loopAbsoluteRow.holds Tryz.pinned (OpenSpec.ofChange loopAbsoluteSpec)

/-- ITS FALSE NEIGHBOUR: 'it returns false'. Refute it at one input. -/
def loopAbsoluteWrong : ChangeSpec := { name := "loopAbsolute", fn := fun _ => fun
  | [d1, d2] => { results := [.lit (.bool false)], args := [d1, d2] }
  | _ => none }
def LoopAbsoluteWrongFalsely : Prop := loopAbsoluteRow.holds Tryz.pinned (OpenSpec.ofChange loopAbsoluteWrong)

/-- 'fiduciallaw32.LoopErrors': WHATEVER THE INPUT: true; the input reads as it did. -/
def loopErrorsSpec : ChangeSpec := { name := "loopErrors", fn := fun _ => fun
  | [d1, d2, d3] => { results := [.lit (.bool true)], args := [d1, d2, d3] }
  | _ => none }
def loopErrorsRow : OpenClaim := { program := "ytihgdjljnaekmaagreat", sum := "fd2aeb025faaf6cffd17c03bde46238d765ba1f233b44f5ae94e139e4145ed88", func := "fiducial/fiduciallaw32.LoopErrors", spec := "loopErrors", unfollowed := true, recurses := true, plainKeys := false, apart := false }
def LoopErrorsSaid : Prop := loopErrorsRow.holds Tryz.pinned (OpenSpec.ofChange loopErrorsSpec)

/-- ITS FALSE NEIGHBOUR: 'it returns false'. Refute it at one input. -/
def loopErrorsWrong : ChangeSpec := { name := "loopErrors", fn := fun _ => fun
  | [d1, d2, d3] => { results := [.lit (.bool false)], args := [d1, d2, d3] }
  | _ => none }
def LoopErrorsWrongFalsely : Prop := loopErrorsRow.holds Tryz.pinned (OpenSpec.ofChange loopErrorsWrong)

/-- 'fiduciallaw32.LoopConsistent': WHATEVER THE INPUT: true; the input reads as it did. -/
def loopConsistentSpec : ChangeSpec := { name := "loopConsistent", fn := fun _ => fun
  | [d1, d2] => { results := [.lit (.bool true)], args := [d1, d2] }
  | _ => none }
def loopConsistentRow : OpenClaim := { program := "ytihgdjljnaekmaagreat", sum := "fd2aeb025faaf6cffd17c03bde46238d765ba1f233b44f5ae94e139e4145ed88", func := "fiducial/fiduciallaw32.LoopConsistent", spec := "loopConsistent", unfollowed := true, recurses := true, plainKeys := false, apart := false }
def LoopConsistentSaid : Prop := loopConsistentRow.holds Tryz.pinned (OpenSpec.ofChange loopConsistentSpec)

/-- ITS FALSE NEIGHBOUR: 'it returns false'. Refute it at one input. -/
def loopConsistentWrong : ChangeSpec := { name := "loopConsistent", fn := fun _ => fun
  | [d1, d2] => { results := [.lit (.bool false)], args := [d1, d2] }
  | _ => none }
def LoopConsistentWrongFalsely : Prop := loopConsistentRow.holds Tryz.pinned (OpenSpec.ofChange loopConsistentWrong)

/-- 'fiduciallaw32.LoopMade': WHATEVER THE INPUT: true; the input reads as it did. -/
def loopMadeSpec : ChangeSpec := { name := "loopMade", fn := fun _ => fun
  | [d1, d2, d3] => { results := [.lit (.bool true)], args := [d1, d2, d3] }
  | _ => none }
def loopMadeRow : OpenClaim := { program := "ytihgdjljnaekmaagreat", sum := "fd2aeb025faaf6cffd17c03bde46238d765ba1f233b44f5ae94e139e4145ed88", func := "fiducial/fiduciallaw32.LoopMade", spec := "loopMade", unfollowed := true, recurses := true, plainKeys := false, apart := false }
def LoopMadeSaid : Prop := loopMadeRow.holds Tryz.pinned (OpenSpec.ofChange loopMadeSpec)

/-- ITS FALSE NEIGHBOUR: 'it returns false'. Refute it at one input. -/
def loopMadeWrong : ChangeSpec := { name := "loopMade", fn := fun _ => fun
  | [d1, d2, d3] => { results := [.lit (.bool false)], args := [d1, d2, d3] }
  | _ => none }
def LoopMadeWrongFalsely : Prop := loopMadeRow.holds Tryz.pinned (OpenSpec.ofChange loopMadeWrong)

/-- 'fiduciallaw32.LoopOrder': WHATEVER THE INPUT: true; the input reads as it did. -/
def loopOrderSpec : ChangeSpec := { name := "loopOrder", fn := fun _ => fun
  | [d1, d2, d3] => { results := [.lit (.bool true)], args := [d1, d2, d3] }
  | _ => none }
def loopOrderRow : OpenClaim := { program := "ytihgdjljnaekmaagreat", sum := "fd2aeb025faaf6cffd17c03bde46238d765ba1f233b44f5ae94e139e4145ed88", func := "fiducial/fiduciallaw32.LoopOrder", spec := "loopOrder", unfollowed := true, recurses := true, plainKeys := false, apart := false }
def LoopOrderSaid : Prop := loopOrderRow.holds Tryz.pinned (OpenSpec.ofChange loopOrderSpec)

/-- ITS FALSE NEIGHBOUR: 'it returns false'. Refute it at one input. -/
def loopOrderWrong : ChangeSpec := { name := "loopOrder", fn := fun _ => fun
  | [d1, d2, d3] => { results := [.lit (.bool false)], args := [d1, d2, d3] }
  | _ => none }
def LoopOrderWrongFalsely : Prop := loopOrderRow.holds Tryz.pinned (OpenSpec.ofChange loopOrderWrong)

/- THE SECOND FORM. 'bulk': how many values and letters a reading holds, each counted each time it is reached (what is shared counts as often as it is met; a slice's spare places count too). A statement '..UptoSaid' is the law's where the arguments, and the package variables that the reading takes, are together of bulk at most 1048576: NARROWER than '..Said'. Prove '..Said' where nothing that the law and all that it calls make is longer than what came in: it says more and counts as full. Else prove '..UptoSaid'. A law counts once. -/
mutual
def uptoBulk {H : Type} : DataW H → Nat
  | .lit (.string bytes) => bytes.length + 1
  | .lit _ => 1
  | .nil => 1
  | .ptr d => uptoBulk d + 1
  | .slice elems spare => uptoBulkAll elems + uptoBulkAll spare + 1
  | .agg parts => uptoBulkAll parts + 1
  | .iface _ d => uptoBulk d + 1
  | .map entries => uptoBulkEntries entries + 1
  | .held _ => 1
def uptoBulkAll {H : Type} : List (DataW H) → Nat
  | [] => 0
  | d :: r => uptoBulk d + uptoBulkAll r
def uptoBulkEntries {H : Type} : List (Lit × DataW H) → Nat
  | [] => 0
  | x :: r => uptoBulkEntry x + uptoBulkEntries r
def uptoBulkEntry {H : Type} : Lit × DataW H → Nat
  | (.string bytes, d) => bytes.length + uptoBulk d + 1
  | (_, d) => uptoBulk d + 1
 end
def uptoSmall : (H : Type) → List (DataW H) → Bool := fun _ ds => decide (uptoBulkAll ds ≤ 1048576)
def OpenSpec.upto (s : _root_.Go.ChangeSpec) : _root_.Go.OpenSpec := { _root_.Go.OpenSpec.ofChange s with cond := some uptoSmall }

/-- 'fiducialtop.TopTurns', WHERE WHAT IT READS IS OF BULK AT MOST 1048576: true; the input reads as it did. -/
def topTurnsUptoRow : OpenClaim := { program := "ytihgdjljnaekmaagreat", sum := "fd2aeb025faaf6cffd17c03bde46238d765ba1f233b44f5ae94e139e4145ed88", func := "fiducial/fiducialtop.TopTurns", spec := "topTurns", unfollowed := true, recurses := true, plainKeys := false, apart := false, narrowed := true }
def TopTurnsUptoSaid : Prop := topTurnsUptoRow.holds Tryz.pinned (OpenSpec.upto topTurnsSpec)

/-- 'fiduciallaw32.LoopTrees', WHERE WHAT IT READS IS OF BULK AT MOST 1048576: true; the input reads as it did. -/
def loopTreesUptoRow : OpenClaim := { program := "ytihgdjljnaekmaagreat", sum := "fd2aeb025faaf6cffd17c03bde46238d765ba1f233b44f5ae94e139e4145ed88", func := "fiducial/fiduciallaw32.LoopTrees", spec := "loopTrees", unfollowed := true, recurses := true, plainKeys := false, apart := false, narrowed := true }
def LoopTreesUptoSaid : Prop := loopTreesUptoRow.holds Tryz.pinned (OpenSpec.upto loopTreesSpec)

/-- 'fiduciallaw32.LoopAround', WHERE WHAT IT READS IS OF BULK AT MOST 1048576: true; the input reads as it did. -/
def loopAroundUptoRow : OpenClaim := { program := "ytihgdjljnaekmaagreat", sum := "fd2aeb025faaf6cffd17c03bde46238d765ba1f233b44f5ae94e139e4145ed88", func := "fiducial/fiduciallaw32.LoopAround", spec := "loopAround", unfollowed := true, recurses := true, plainKeys := false, apart := false, narrowed := true }
def LoopAroundUptoSaid : Prop := loopAroundUptoRow.holds Tryz.pinned (OpenSpec.upto loopAroundSpec)

/-- 'fiduciallaw32.LoopSelects', WHERE WHAT IT READS IS OF BULK AT MOST 1048576: true; the input reads as it did. -/
def loopSelectsUptoRow : OpenClaim := { program := "ytihgdjljnaekmaagreat", sum := "fd2aeb025faaf6cffd17c03bde46238d765ba1f233b44f5ae94e139e4145ed88", func := "fiducial/fiduciallaw32.LoopSelects", spec := "loopSelects", unfollowed := true, recurses := true, plainKeys := false, apart := false, narrowed := true }
def LoopSelectsUptoSaid : Prop := loopSelectsUptoRow.holds Tryz.pinned (OpenSpec.upto loopSelectsSpec)

/-- 'fiduciallaw32.LoopWrong', WHERE WHAT IT READS IS OF BULK AT MOST 1048576: true; the input reads as it did. -/
def loopWrongUptoRow : OpenClaim := { program := "ytihgdjljnaekmaagreat", sum := "fd2aeb025faaf6cffd17c03bde46238d765ba1f233b44f5ae94e139e4145ed88", func := "fiducial/fiduciallaw32.LoopWrong", spec := "loopWrong", unfollowed := true, recurses := true, plainKeys := false, apart := false, narrowed := true }
def LoopWrongUptoSaid : Prop := loopWrongUptoRow.holds Tryz.pinned (OpenSpec.upto loopWrongSpec)

/-- 'fiduciallaw32.LoopAbsolute', WHERE WHAT IT READS IS OF BULK AT MOST 1048576: true; the input reads as it did. -/
def loopAbsoluteUptoRow : OpenClaim := { program := "ytihgdjljnaekmaagreat", sum := "fd2aeb025faaf6cffd17c03bde46238d765ba1f233b44f5ae94e139e4145ed88", func := "fiducial/fiduciallaw32.LoopAbsolute", spec := "loopAbsolute", unfollowed := true, recurses := true, plainKeys := false, apart := false, narrowed := true }
def LoopAbsoluteUptoSaid : Prop := loopAbsoluteUptoRow.holds Tryz.pinned (OpenSpec.upto loopAbsoluteSpec)

/-- 'fiduciallaw32.LoopErrors', WHERE WHAT IT READS IS OF BULK AT MOST 1048576: true; the input reads as it did. -/
def loopErrorsUptoRow : OpenClaim := { program := "ytihgdjljnaekmaagreat", sum := "fd2aeb025faaf6cffd17c03bde46238d765ba1f233b44f5ae94e139e4145ed88", func := "fiducial/fiduciallaw32.LoopErrors", spec := "loopErrors", unfollowed := true, recurses := true, plainKeys := false, apart := false, narrowed := true }
def LoopErrorsUptoSaid : Prop := loopErrorsUptoRow.holds Tryz.pinned (OpenSpec.upto loopErrorsSpec)

/-- 'fiduciallaw32.LoopConsistent', WHERE WHAT IT READS IS OF BULK AT MOST 1048576: true; the input reads as it did. -/
def loopConsistentUptoRow : OpenClaim := { program := "ytihgdjljnaekmaagreat", sum := "fd2aeb025faaf6cffd17c03bde46238d765ba1f233b44f5ae94e139e4145ed88", func := "fiducial/fiduciallaw32.LoopConsistent", spec := "loopConsistent", unfollowed := true, recurses := true, plainKeys := false, apart := false, narrowed := true }
def LoopConsistentUptoSaid : Prop := loopConsistentUptoRow.holds Tryz.pinned (OpenSpec.upto loopConsistentSpec)

/-- 'fiduciallaw32.LoopMade', WHERE WHAT IT READS IS OF BULK AT MOST 1048576: true; the input reads as it did. -/
def loopMadeUptoRow : OpenClaim := { program := "ytihgdjljnaekmaagreat", sum := "fd2aeb025faaf6cffd17c03bde46238d765ba1f233b44f5ae94e139e4145ed88", func := "fiducial/fiduciallaw32.LoopMade", spec := "loopMade", unfollowed := true, recurses := true, plainKeys := false, apart := false, narrowed := true }
def LoopMadeUptoSaid : Prop := loopMadeUptoRow.holds Tryz.pinned (OpenSpec.upto loopMadeSpec)

/-- 'fiduciallaw32.LoopOrder', WHERE WHAT IT READS IS OF BULK AT MOST 1048576: true; the input reads as it did. -/
def loopOrderUptoRow : OpenClaim := { program := "ytihgdjljnaekmaagreat", sum := "fd2aeb025faaf6cffd17c03bde46238d765ba1f233b44f5ae94e139e4145ed88", func := "fiducial/fiduciallaw32.LoopOrder", spec := "loopOrder", unfollowed := true, recurses := true, plainKeys := false, apart := false, narrowed := true }
def LoopOrderUptoSaid : Prop := loopOrderUptoRow.holds Tryz.pinned (OpenSpec.upto loopOrderSpec)

end Rows
end Go.Proofs.YtihgdjljnaekmaaGreat
