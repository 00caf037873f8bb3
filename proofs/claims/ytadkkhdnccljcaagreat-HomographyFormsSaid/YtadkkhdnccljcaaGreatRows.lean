/-
  No cell of these rows narrows 'for every input' (looked for: loops, veiled, ifaces, maps, wideKeys, modest, calm, conditions, laid).
  DERIVED. THE GIVEN ROWS OF THIS SEAT. 8 by the template 'for every input the law returns true; each argument reads behind the call as it read before'; 0 by the template 'total and deterministic' (their statements: YtadkkhdnccljcaaGreatTotals.lean).
  GIVEN WITH THE SEED: the statements are not yours to turn. If you find one false, say at which input.
  Laid BY PROGRAM, IN A SANDBOX (cutbox-rows.mjs): the forced cells as the released guide's own fill.sh prints them over the translation 24d1193918de712f… (all of the seat's roots in one cut). By AI agents, Wed Nov 11 2026. No macro, syntax, notation, axiom, sorry.
-/
import Derived.Test.YtadkkhdnccljcaaGreatChecked
import GoSem.Claim
import GoSem.ClaimJoined
import GoSem.ClaimMapViews
import Derived.JoinedTies
import Derived.KernelRfl
namespace Go.Proofs.YtadkkhdnccljcaaGreat
/- THE CELL 'sum', in the pinned program and in every row, IS THE sha256 OF THE DUMP (.gsa) THAT YtadkkhdnccljcaaGreatProg.lean LOADS. Nothing in Lean hashes anything: it is a label: what it is worth is what the hold of that sum in a sandbox is worth. -/
noncomputable def Tryz.pinned : Pinned := { name := "ytadkkhdnccljcaagreat", sum := "24d1193918de712f236e0ce3444dec4dac4aa946e05ac40bf2972c8546152131", checked := Tryz.checked }
namespace Rows
def none {H : Type} : Left H := { results := [], args := [] }

/-- 'fiduciallaw27.HomographyFours': WHATEVER THE INPUT: true; the input reads as it did. -/
def homographyFoursSpec : ChangeSpec := { name := "homographyFours", fn := fun _ => fun
  | [d] => { results := [.lit (.bool true)], args := [d] }
  | _ => none }
def homographyFoursRow : OpenClaim := { program := "ytadkkhdnccljcaagreat", sum := "24d1193918de712f236e0ce3444dec4dac4aa946e05ac40bf2972c8546152131", func := "fiducial/fiduciallaw27.HomographyFours", spec := "homographyFours", unfollowed := true, recurses := true, apart := false }
def HomographyFoursSaid : Prop := homographyFoursRow.holds Tryz.pinned (OpenSpec.ofChange homographyFoursSpec)

/-- ITS FALSE NEIGHBOUR: 'it returns false'. Refute it at one input. -/
def homographyFoursWrong : ChangeSpec := { name := "homographyFours", fn := fun _ => fun
  | [d] => { results := [.lit (.bool false)], args := [d] }
  | _ => none }
def HomographyFoursWrongFalsely : Prop := homographyFoursRow.holds Tryz.pinned (OpenSpec.ofChange homographyFoursWrong)

/-- 'fiduciallaw27.HomographyApplies': WHATEVER THE INPUT: true; the input reads as it did. -/
def homographyAppliesSpec : ChangeSpec := { name := "homographyApplies", fn := fun _ => fun
  | [d1, d2] => { results := [.lit (.bool true)], args := [d1, d2] }
  | _ => none }
def homographyAppliesRow : OpenClaim := { program := "ytadkkhdnccljcaagreat", sum := "24d1193918de712f236e0ce3444dec4dac4aa946e05ac40bf2972c8546152131", func := "fiducial/fiduciallaw27.HomographyApplies", spec := "homographyApplies", unfollowed := true, recurses := true, apart := false }
def HomographyAppliesSaid : Prop := homographyAppliesRow.holds Tryz.pinned (OpenSpec.ofChange homographyAppliesSpec)

/-- ITS FALSE NEIGHBOUR: 'it returns false'. Refute it at one input. -/
def homographyAppliesWrong : ChangeSpec := { name := "homographyApplies", fn := fun _ => fun
  | [d1, d2] => { results := [.lit (.bool false)], args := [d1, d2] }
  | _ => none }
def HomographyAppliesWrongFalsely : Prop := homographyAppliesRow.holds Tryz.pinned (OpenSpec.ofChange homographyAppliesWrong)

/-- 'fiduciallaw27.HomographyLines': WHATEVER THE INPUT: true; the input reads as it did. -/
def homographyLinesSpec : ChangeSpec := { name := "homographyLines", fn := fun _ => fun
  | [d1, d2, d3] => { results := [.lit (.bool true)], args := [d1, d2, d3] }
  | _ => none }
def homographyLinesRow : OpenClaim := { program := "ytadkkhdnccljcaagreat", sum := "24d1193918de712f236e0ce3444dec4dac4aa946e05ac40bf2972c8546152131", func := "fiducial/fiduciallaw27.HomographyLines", spec := "homographyLines", unfollowed := true, recurses := true, apart := false }
def HomographyLinesSaid : Prop := homographyLinesRow.holds Tryz.pinned (OpenSpec.ofChange homographyLinesSpec)

/-- ITS FALSE NEIGHBOUR: 'it returns false'. Refute it at one input. -/
def homographyLinesWrong : ChangeSpec := { name := "homographyLines", fn := fun _ => fun
  | [d1, d2, d3] => { results := [.lit (.bool false)], args := [d1, d2, d3] }
  | _ => none }
def HomographyLinesWrongFalsely : Prop := homographyLinesRow.holds Tryz.pinned (OpenSpec.ofChange homographyLinesWrong)

/-- 'fiduciallaw27.HomographyGroup': WHATEVER THE INPUT: true; the input reads as it did. -/
def homographyGroupSpec : ChangeSpec := { name := "homographyGroup", fn := fun _ => fun
  | [d1, d2, d3] => { results := [.lit (.bool true)], args := [d1, d2, d3] }
  | _ => none }
def homographyGroupRow : OpenClaim := { program := "ytadkkhdnccljcaagreat", sum := "24d1193918de712f236e0ce3444dec4dac4aa946e05ac40bf2972c8546152131", func := "fiducial/fiduciallaw27.HomographyGroup", spec := "homographyGroup", unfollowed := true, recurses := true, apart := false }
def HomographyGroupSaid : Prop := homographyGroupRow.holds Tryz.pinned (OpenSpec.ofChange homographyGroupSpec)

/-- ITS FALSE NEIGHBOUR: 'it returns false'. Refute it at one input. -/
def homographyGroupWrong : ChangeSpec := { name := "homographyGroup", fn := fun _ => fun
  | [d1, d2, d3] => { results := [.lit (.bool false)], args := [d1, d2, d3] }
  | _ => none }
def HomographyGroupWrongFalsely : Prop := homographyGroupRow.holds Tryz.pinned (OpenSpec.ofChange homographyGroupWrong)

/-- 'fiduciallaw27.HomographyRatios': WHATEVER THE INPUT: true; the input reads as it did. -/
def homographyRatiosSpec : ChangeSpec := { name := "homographyRatios", fn := fun _ => fun
  | [d1, d2] => { results := [.lit (.bool true)], args := [d1, d2] }
  | _ => none }
def homographyRatiosRow : OpenClaim := { program := "ytadkkhdnccljcaagreat", sum := "24d1193918de712f236e0ce3444dec4dac4aa946e05ac40bf2972c8546152131", func := "fiducial/fiduciallaw27.HomographyRatios", spec := "homographyRatios", unfollowed := true, recurses := true, apart := false }
def HomographyRatiosSaid : Prop := homographyRatiosRow.holds Tryz.pinned (OpenSpec.ofChange homographyRatiosSpec)

/-- ITS FALSE NEIGHBOUR: 'it returns false'. Refute it at one input. -/
def homographyRatiosWrong : ChangeSpec := { name := "homographyRatios", fn := fun _ => fun
  | [d1, d2] => { results := [.lit (.bool false)], args := [d1, d2] }
  | _ => none }
def HomographyRatiosWrongFalsely : Prop := homographyRatiosRow.holds Tryz.pinned (OpenSpec.ofChange homographyRatiosWrong)

/-- 'fiduciallaw27.HomographyForms': WHATEVER THE INPUT: true; the input reads as it did. -/
def homographyFormsSpec : ChangeSpec := { name := "homographyForms", fn := fun _ => fun
  | [d1, d2, d3] => { results := [.lit (.bool true)], args := [d1, d2, d3] }
  | _ => none }
def homographyFormsRow : OpenClaim := { program := "ytadkkhdnccljcaagreat", sum := "24d1193918de712f236e0ce3444dec4dac4aa946e05ac40bf2972c8546152131", func := "fiducial/fiduciallaw27.HomographyForms", spec := "homographyForms", unfollowed := true, recurses := true, apart := false }
def HomographyFormsSaid : Prop := homographyFormsRow.holds Tryz.pinned (OpenSpec.ofChange homographyFormsSpec)

/-- ITS FALSE NEIGHBOUR: 'it returns false'. Refute it at one input. -/
def homographyFormsWrong : ChangeSpec := { name := "homographyForms", fn := fun _ => fun
  | [d1, d2, d3] => { results := [.lit (.bool false)], args := [d1, d2, d3] }
  | _ => none }
def HomographyFormsWrongFalsely : Prop := homographyFormsRow.holds Tryz.pinned (OpenSpec.ofChange homographyFormsWrong)

/-- 'fiduciallaw27.HomographyPoints': WHATEVER THE INPUT: true; the input reads as it did. -/
def homographyPointsSpec : ChangeSpec := { name := "homographyPoints", fn := fun _ => fun
  | [d1, d2, d3] => { results := [.lit (.bool true)], args := [d1, d2, d3] }
  | _ => none }
def homographyPointsRow : OpenClaim := { program := "ytadkkhdnccljcaagreat", sum := "24d1193918de712f236e0ce3444dec4dac4aa946e05ac40bf2972c8546152131", func := "fiducial/fiduciallaw27.HomographyPoints", spec := "homographyPoints", unfollowed := true, recurses := true, apart := false }
def HomographyPointsSaid : Prop := homographyPointsRow.holds Tryz.pinned (OpenSpec.ofChange homographyPointsSpec)

/-- ITS FALSE NEIGHBOUR: 'it returns false'. Refute it at one input. -/
def homographyPointsWrong : ChangeSpec := { name := "homographyPoints", fn := fun _ => fun
  | [d1, d2, d3] => { results := [.lit (.bool false)], args := [d1, d2, d3] }
  | _ => none }
def HomographyPointsWrongFalsely : Prop := homographyPointsRow.holds Tryz.pinned (OpenSpec.ofChange homographyPointsWrong)

/-- 'fiduciallaw27.HomographyErrors': WHATEVER THE INPUT: true; the input reads as it did. -/
def homographyErrorsSpec : ChangeSpec := { name := "homographyErrors", fn := fun _ => fun
  | [d1, d2] => { results := [.lit (.bool true)], args := [d1, d2] }
  | _ => none }
def homographyErrorsRow : OpenClaim := { program := "ytadkkhdnccljcaagreat", sum := "24d1193918de712f236e0ce3444dec4dac4aa946e05ac40bf2972c8546152131", func := "fiducial/fiduciallaw27.HomographyErrors", spec := "homographyErrors", unfollowed := true, recurses := true, apart := false }
def HomographyErrorsSaid : Prop := homographyErrorsRow.holds Tryz.pinned (OpenSpec.ofChange homographyErrorsSpec)

/-- ITS FALSE NEIGHBOUR: 'it returns false'. Refute it at one input. -/
def homographyErrorsWrong : ChangeSpec := { name := "homographyErrors", fn := fun _ => fun
  | [d1, d2] => { results := [.lit (.bool false)], args := [d1, d2] }
  | _ => none }
def HomographyErrorsWrongFalsely : Prop := homographyErrorsRow.holds Tryz.pinned (OpenSpec.ofChange homographyErrorsWrong)

/- THE SECOND FORM. 'bulk': how many values and letters a reading holds, each counted each time it is reached (what is shared counts as often as it is met; a slice's spare places count too). A statement '..UptoSaid' is the law's where the arguments, and the package variables that the reading takes, are together of bulk at most 1048576: NARROWER than '..Said'. Prove '..Said' where nothing that the law and all that it calls make is longer than what came in: it says more and counts as full. Else prove '..UptoSaid'. A law counts once. -/
mutual
def uptoBulk {H : Type} : DataW H → Nat
  | .lit (.string bytes) => bytes.length + 1
  | .lit _ => 1
  | .nil => 1
  | .ptr d => uptoBulk d + 1
  | .slice elems spare => uptoBulkAll elems + uptoBulkAll spare + 1
  | .agg parts => uptoBulkAll parts + 1
  | .iface _ d => uptoBulk d + 1
  | .map entries => uptoBulkEntries entries + 1
  | .held _ => 1
def uptoBulkAll {H : Type} : List (DataW H) → Nat
  | [] => 0
  | d :: r => uptoBulk d + uptoBulkAll r
def uptoBulkEntries {H : Type} : List (Lit × DataW H) → Nat
  | [] => 0
  | x :: r => uptoBulkEntry x + uptoBulkEntries r
def uptoBulkEntry {H : Type} : Lit × DataW H → Nat
  | (.string bytes, d) => bytes.length + uptoBulk d + 1
  | (_, d) => uptoBulk d + 1
 end
def uptoSmall : (H : Type) → List (DataW H) → Bool := fun _ ds => decide (uptoBulkAll ds ≤ 1048576)
def OpenSpec.upto (s : _root_.Go.ChangeSpec) : _root_.Go.OpenSpec := { _root_.Go.OpenSpec.ofChange s with cond := some uptoSmall }

/-- 'fiduciallaw27.HomographyFours', WHERE WHAT IT READS IS OF BULK AT MOST 1048576: true; the input reads as it did. -/
def homographyFoursUptoRow : OpenClaim := { program := "ytadkkhdnccljcaagreat", sum := "24d1193918de712f236e0ce3444dec4dac4aa946e05ac40bf2972c8546152131", func := "fiducial/fiduciallaw27.HomographyFours", spec := "homographyFours", unfollowed := true, recurses := true, apart := false, narrowed := true }
def HomographyFoursUptoSaid : Prop := homographyFoursUptoRow.holds Tryz.pinned (OpenSpec.upto homographyFoursSpec)

/-- 'fiduciallaw27.HomographyApplies', WHERE WHAT IT READS IS OF BULK AT MOST 1048576: true; the input reads as it did. -/
def homographyAppliesUptoRow : OpenClaim := { program := "ytadkkhdnccljcaagreat", sum := "24d1193918de712f236e0ce3444dec4dac4aa946e05ac40bf2972c8546152131", func := "fiducial/fiduciallaw27.HomographyApplies", spec := "homographyApplies", unfollowed := true, recurses := true, apart := false, narrowed := true }
def HomographyAppliesUptoSaid : Prop := homographyAppliesUptoRow.holds Tryz.pinned (OpenSpec.upto homographyAppliesSpec)

/-- 'fiduciallaw27.HomographyLines', WHERE WHAT IT READS IS OF BULK AT MOST 1048576: true; the input reads as it did. -/
def homographyLinesUptoRow : OpenClaim := { program := "ytadkkhdnccljcaagreat", sum := "24d1193918de712f236e0ce3444dec4dac4aa946e05ac40bf2972c8546152131", func := "fiducial/fiduciallaw27.HomographyLines", spec := "homographyLines", unfollowed := true, recurses := true, apart := false, narrowed := true }
def HomographyLinesUptoSaid : Prop := homographyLinesUptoRow.holds Tryz.pinned (OpenSpec.upto homographyLinesSpec)

/-- 'fiduciallaw27.HomographyGroup', WHERE WHAT IT READS IS OF BULK AT MOST 1048576: true; the input reads as it did. -/
def homographyGroupUptoRow : OpenClaim := { program := "ytadkkhdnccljcaagreat", sum := "24d1193918de712f236e0ce3444dec4dac4aa946e05ac40bf2972c8546152131", func := "fiducial/fiduciallaw27.HomographyGroup", spec := "homographyGroup", unfollowed := true, recurses := true, apart := false, narrowed := true }
def HomographyGroupUptoSaid : Prop := homographyGroupUptoRow.holds Tryz.pinned (OpenSpec.upto homographyGroupSpec)

/-- 'fiduciallaw27.HomographyRatios', WHERE WHAT IT READS IS OF BULK AT MOST 1048576: true; the input reads as it did. -/
def homographyRatiosUptoRow : OpenClaim := { program := "ytadkkhdnccljcaagreat", sum := "24d1193918de712f236e0ce3444dec4dac4aa946e05ac40bf2972c8546152131", func := "fiducial/fiduciallaw27.HomographyRatios", spec := "homographyRatios", unfollowed := true, recurses := true, apart := false, narrowed := true }
def HomographyRatiosUptoSaid : Prop := homographyRatiosUptoRow.holds Tryz.pinned (OpenSpec.upto homographyRatiosSpec)

/-- 'fiduciallaw27.HomographyForms', WHERE WHAT IT READS IS OF BULK AT MOST 1048576: true; the input reads as it did. -/
def homographyFormsUptoRow : OpenClaim := { program := "ytadkkhdnccljcaagreat", sum := "24d1193918de712f236e0ce3444dec4dac4aa946e05ac40bf2972c8546152131", func := "fiducial/fiduciallaw27.HomographyForms", spec := "homographyForms", unfollowed := true, recurses := true, apart := false, narrowed := true }
def HomographyFormsUptoSaid : Prop := homographyFormsUptoRow.holds Tryz.pinned (OpenSpec.upto homographyFormsSpec)

/-- 'fiduciallaw27.HomographyPoints', WHERE WHAT IT READS IS OF BULK AT MOST 1048576: true; the input reads as it did. -/
def homographyPointsUptoRow : OpenClaim := { program := "ytadkkhdnccljcaagreat", sum := "24d1193918de712f236e0ce3444dec4dac4aa946e05ac40bf2972c8546152131", func := "fiducial/fiduciallaw27.HomographyPoints", spec := "homographyPoints", unfollowed := true, recurses := true, apart := false, narrowed := true }
def HomographyPointsUptoSaid : Prop := homographyPointsUptoRow.holds Tryz.pinned (OpenSpec.upto homographyPointsSpec)

/-- 'fiduciallaw27.HomographyErrors', WHERE WHAT IT READS IS OF BULK AT MOST 1048576: true; the input reads as it did. -/
def homographyErrorsUptoRow : OpenClaim := { program := "ytadkkhdnccljcaagreat", sum := "24d1193918de712f236e0ce3444dec4dac4aa946e05ac40bf2972c8546152131", func := "fiducial/fiduciallaw27.HomographyErrors", spec := "homographyErrors", unfollowed := true, recurses := true, apart := false, narrowed := true }
def HomographyErrorsUptoSaid : Prop := homographyErrorsUptoRow.holds Tryz.pinned (OpenSpec.upto homographyErrorsSpec)

end Rows
end Go.Proofs.YtadkkhdnccljcaaGreat
