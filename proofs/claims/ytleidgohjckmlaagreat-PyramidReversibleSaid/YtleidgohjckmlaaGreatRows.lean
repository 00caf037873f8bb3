/-
  No cell of these rows narrows 'for every input' (looked for: loops, veiled, ifaces, maps, wideKeys, modest, calm, conditions, laid).
  DERIVED. THE GIVEN ROWS OF THIS SEAT. 4 by the template 'for every input the law returns true; each argument reads behind the call as it read before'; 0 by the template 'total and deterministic' (their statements: YtleidgohjckmlaaGreatTotals.lean).
  GIVEN WITH THE SEED: the statements are not yours to turn. If you find one false, say at which input.
  Laid BY PROGRAM, IN A SANDBOX (cutbox-rows.mjs): the forced cells as the released guide's own fill.sh prints them over the translation aa503eecfaa57294… (all of the seat's roots in one cut). By AI agents, Wed Nov 11 2026. No macro, syntax, notation, axiom, sorry.
-/
import Derived.Test.YtleidgohjckmlaaGreatChecked
import GoSem.Claim
import GoSem.ClaimJoined
import GoSem.ClaimMapViews
import Derived.JoinedTies
import Derived.KernelRfl
namespace Go.Proofs.YtleidgohjckmlaaGreat
/- THE CELL 'sum', in the pinned program and in every row, IS THE sha256 OF THE DUMP (.gsa) THAT YtleidgohjckmlaaGreatProg.lean LOADS. Nothing in Lean hashes anything: it is a label: what it is worth is what the hold of that sum in a sandbox is worth. -/
noncomputable def Tryz.pinned : Pinned := { name := "ytleidgohjckmlaagreat", sum := "aa503eecfaa572941193e9399368556f784c873499aa4095b8e2e4ba7f9dce27", checked := Tryz.checked }
namespace Rows
def none {H : Type} : Left H := { results := [], args := [] }

/-- 'fiduciallaw16.PyramidSplits': WHATEVER THE INPUT: true; the input reads as it did. -/
def pyramidSplitsSpec : ChangeSpec := { name := "pyramidSplits", fn := fun _ => fun
  | [d] => { results := [.lit (.bool true)], args := [d] }
  | _ => none }
def pyramidSplitsRow : OpenClaim := { program := "ytleidgohjckmlaagreat", sum := "aa503eecfaa572941193e9399368556f784c873499aa4095b8e2e4ba7f9dce27", func := "fiducial/fiduciallaw16.PyramidSplits", spec := "pyramidSplits", unfollowed := true, recurses := true, apart := false }
def PyramidSplitsSaid : Prop := pyramidSplitsRow.holds Tryz.pinned (OpenSpec.ofChange pyramidSplitsSpec)

/-- ITS FALSE NEIGHBOUR: 'it returns false'. Refute it at one input. -/
def pyramidSplitsWrong : ChangeSpec := { name := "pyramidSplits", fn := fun _ => fun
  | [d] => { results := [.lit (.bool false)], args := [d] }
  | _ => none }
def PyramidSplitsWrongFalsely : Prop := pyramidSplitsRow.holds Tryz.pinned (OpenSpec.ofChange pyramidSplitsWrong)

/-- 'fiduciallaw16.PyramidJoins': WHATEVER THE INPUT: true; the input reads as it did. -/
def pyramidJoinsSpec : ChangeSpec := { name := "pyramidJoins", fn := fun _ => fun
  | [d] => { results := [.lit (.bool true)], args := [d] }
  | _ => none }
def pyramidJoinsRow : OpenClaim := { program := "ytleidgohjckmlaagreat", sum := "aa503eecfaa572941193e9399368556f784c873499aa4095b8e2e4ba7f9dce27", func := "fiducial/fiduciallaw16.PyramidJoins", spec := "pyramidJoins", unfollowed := true, recurses := true, apart := false }
def PyramidJoinsSaid : Prop := pyramidJoinsRow.holds Tryz.pinned (OpenSpec.ofChange pyramidJoinsSpec)

/-- ITS FALSE NEIGHBOUR: 'it returns false'. Refute it at one input. -/
def pyramidJoinsWrong : ChangeSpec := { name := "pyramidJoins", fn := fun _ => fun
  | [d] => { results := [.lit (.bool false)], args := [d] }
  | _ => none }
def PyramidJoinsWrongFalsely : Prop := pyramidJoinsRow.holds Tryz.pinned (OpenSpec.ofChange pyramidJoinsWrong)

/-- 'fiduciallaw16.PyramidBuilds': WHATEVER THE INPUT: true; the input reads as it did. -/
def pyramidBuildsSpec : ChangeSpec := { name := "pyramidBuilds", fn := fun _ => fun
  | [d1, d2] => { results := [.lit (.bool true)], args := [d1, d2] }
  | _ => none }
def pyramidBuildsRow : OpenClaim := { program := "ytleidgohjckmlaagreat", sum := "aa503eecfaa572941193e9399368556f784c873499aa4095b8e2e4ba7f9dce27", func := "fiducial/fiduciallaw16.PyramidBuilds", spec := "pyramidBuilds", unfollowed := true, recurses := true, apart := false }
def PyramidBuildsSaid : Prop := pyramidBuildsRow.holds Tryz.pinned (OpenSpec.ofChange pyramidBuildsSpec)

/-- ITS FALSE NEIGHBOUR: 'it returns false'. Refute it at one input. -/
def pyramidBuildsWrong : ChangeSpec := { name := "pyramidBuilds", fn := fun _ => fun
  | [d1, d2] => { results := [.lit (.bool false)], args := [d1, d2] }
  | _ => none }
def PyramidBuildsWrongFalsely : Prop := pyramidBuildsRow.holds Tryz.pinned (OpenSpec.ofChange pyramidBuildsWrong)

/-- 'fiduciallaw16.PyramidReversible': WHATEVER THE INPUT: true; the input reads as it did. -/
def pyramidReversibleSpec : ChangeSpec := { name := "pyramidReversible", fn := fun _ => fun
  | [d1, d2] => { results := [.lit (.bool true)], args := [d1, d2] }
  | _ => none }
def pyramidReversibleRow : OpenClaim := { program := "ytleidgohjckmlaagreat", sum := "aa503eecfaa572941193e9399368556f784c873499aa4095b8e2e4ba7f9dce27", func := "fiducial/fiduciallaw16.PyramidReversible", spec := "pyramidReversible", unfollowed := true, recurses := true, apart := false }
def PyramidReversibleSaid : Prop := pyramidReversibleRow.holds Tryz.pinned (OpenSpec.ofChange pyramidReversibleSpec)

/-- ITS FALSE NEIGHBOUR: 'it returns false'. Refute it at one input. -/
def pyramidReversibleWrong : ChangeSpec := { name := "pyramidReversible", fn := fun _ => fun
  | [d1, d2] => { results := [.lit (.bool false)], args := [d1, d2] }
  | _ => none }
def PyramidReversibleWrongFalsely : Prop := pyramidReversibleRow.holds Tryz.pinned (OpenSpec.ofChange pyramidReversibleWrong)

/- THE SECOND FORM. 'bulk': how many values and letters a reading holds, each counted each time it is reached (what is shared counts as often as it is met; a slice's spare places count too). A statement '..UptoSaid' is the law's where the arguments, and the package variables that the reading takes, are together of bulk at most 1048576: NARROWER than '..Said'. Prove '..Said' where nothing that the law and all that it calls make is longer than what came in: it says more and counts as full. Else prove '..UptoSaid'. A law counts once. -/
mutual
def uptoBulk {H : Type} : DataW H → Nat
  | .lit (.string bytes) => bytes.length + 1
  | .lit _ => 1
  | .nil => 1
  | .ptr d => uptoBulk d + 1
  | .slice elems spare => uptoBulkAll elems + uptoBulkAll spare + 1
  | .agg parts => uptoBulkAll parts + 1
  | .iface _ d => uptoBulk d + 1
  | .map entries => uptoBulkEntries entries + 1
  | .held _ => 1
def uptoBulkAll {H : Type} : List (DataW H) → Nat
  | [] => 0
  | d :: r => uptoBulk d + uptoBulkAll r
def uptoBulkEntries {H : Type} : List (Lit × DataW H) → Nat
  | [] => 0
  | x :: r => uptoBulkEntry x + uptoBulkEntries r
def uptoBulkEntry {H : Type} : Lit × DataW H → Nat
  | (.string bytes, d) => bytes.length + uptoBulk d + 1
  | (_, d) => uptoBulk d + 1
 end
def uptoSmall : (H : Type) → List (DataW H) → Bool := fun _ ds => decide (uptoBulkAll ds ≤ 1048576)
def OpenSpec.upto (s : _root_.Go.ChangeSpec) : _root_.Go.OpenSpec := { _root_.Go.OpenSpec.ofChange s with cond := some uptoSmall }

/-- 'fiduciallaw16.PyramidSplits', WHERE WHAT IT READS IS OF BULK AT MOST 1048576: true; the input reads as it did. -/
def pyramidSplitsUptoRow : OpenClaim := { program := "ytleidgohjckmlaagreat", sum := "aa503eecfaa572941193e9399368556f784c873499aa4095b8e2e4ba7f9dce27", func := "fiducial/fiduciallaw16.PyramidSplits", spec := "pyramidSplits", unfollowed := true, recurses := true, apart := false, narrowed := true }
def PyramidSplitsUptoSaid : Prop := pyramidSplitsUptoRow.holds Tryz.pinned (OpenSpec.upto pyramidSplitsSpec)

/-- 'fiduciallaw16.PyramidJoins', WHERE WHAT IT READS IS OF BULK AT MOST 1048576: true; the input reads as it did. -/
def pyramidJoinsUptoRow : OpenClaim := { program := "ytleidgohjckmlaagreat", sum := "aa503eecfaa572941193e9399368556f784c873499aa4095b8e2e4ba7f9dce27", func := "fiducial/fiduciallaw16.PyramidJoins", spec := "pyramidJoins", unfollowed := true, recurses := true, apart := false, narrowed := true }
def PyramidJoinsUptoSaid : Prop := pyramidJoinsUptoRow.holds Tryz.pinned (OpenSpec.upto pyramidJoinsSpec)

/-- 'fiduciallaw16.PyramidBuilds', WHERE WHAT IT READS IS OF BULK AT MOST 1048576: true; the input reads as it did. -/
def pyramidBuildsUptoRow : OpenClaim := { program := "ytleidgohjckmlaagreat", sum := "aa503eecfaa572941193e9399368556f784c873499aa4095b8e2e4ba7f9dce27", func := "fiducial/fiduciallaw16.PyramidBuilds", spec := "pyramidBuilds", unfollowed := true, recurses := true, apart := false, narrowed := true }
def PyramidBuildsUptoSaid : Prop := pyramidBuildsUptoRow.holds Tryz.pinned (OpenSpec.upto pyramidBuildsSpec)

/-- 'fiduciallaw16.PyramidReversible', WHERE WHAT IT READS IS OF BULK AT MOST 1048576: true; the input reads as it did. -/
def pyramidReversibleUptoRow : OpenClaim := { program := "ytleidgohjckmlaagreat", sum := "aa503eecfaa572941193e9399368556f784c873499aa4095b8e2e4ba7f9dce27", func := "fiducial/fiduciallaw16.PyramidReversible", spec := "pyramidReversible", unfollowed := true, recurses := true, apart := false, narrowed := true }
def PyramidReversibleUptoSaid : Prop := pyramidReversibleUptoRow.holds Tryz.pinned (OpenSpec.upto pyramidReversibleSpec)

end Rows
end Go.Proofs.YtleidgohjckmlaaGreat
