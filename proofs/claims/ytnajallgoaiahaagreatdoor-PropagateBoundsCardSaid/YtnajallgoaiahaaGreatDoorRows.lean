/-
  NARROWER THAN 'FOR EVERY INPUT', by the rows' own cells (each row's printed sentence says how): PropagateGradients: laid · PropagateVariances: laid · PropagateCovers: laid · PropagateEllipses: laid · PropagatePositive: laid · PropagateSums: laid · PropagateBounds: laid · PropagateTerms: laid.
  DERIVED. THE GIVEN ROWS OF THIS SEAT. 8 by the template 'for every input the law returns true; each argument reads behind the call as it read before'; 0 by the template 'total and deterministic' (their statements: YtnajallgoaiahaaGreatDoorTotals.lean).
  GIVEN WITH THE SEED: the statements are not yours to turn. If you find one false, say at which input.
  Laid BY PROGRAM, IN A SANDBOX (cutbox-rows.mjs): the forced cells as the released guide's own fill.sh prints them over the translation 778bf4ab94a7e833… (all of the seat's roots in one cut). By AI agents, Wed Nov 11 2026. No macro, syntax, notation, axiom, sorry.
-/
import Derived.Test.YtnajallgoaiahaaGreatDoorChecked
import GoSem.Claim
import GoSem.ClaimJoined
import GoSem.ClaimMapViews
import Derived.JoinedTies
import Derived.KernelRfl
namespace Go.Proofs.YtnajallgoaiahaaGreatDoor
/- THE CELL 'sum', in the pinned program and in every row, IS THE sha256 OF THE DUMP (.gsa) THAT YtnajallgoaiahaaGreatDoorProg.lean LOADS. Nothing in Lean hashes anything: it is a label: what it is worth is what the hold of that sum in a sandbox is worth. -/
noncomputable def Tryz.pinned : Pinned := { name := "ytnajallgoaiahaagreatdoor", sum := "778bf4ab94a7e8332e60eff4941d8d598208aed07203cc81d1f3e4883eac825e", checked := Tryz.checked }
namespace Rows
def none {H : Type} : Left H := { results := [], args := [] }

/- WHAT THE LISTED PACKAGE-LEVEL VARIABLES READ AS WHEN THE CALL BEGINS. Each datum BY PROGRAM (the guide's laid-datum.mjs) off the statement by which the dump's own 'gosem.cut.vars' lays the variable. In a bare row this is a premise. The card (YtnajallgoaiahaaGreatDoorCards.lean) ties it to the program's text. -/
def laid_math_bits_deBruijn32tab {H : Type} : DataW H := .agg [.lit (.int .u8 0), .lit (.int .u8 1), .lit (.int .u8 28), .lit (.int .u8 2), .lit (.int .u8 29), .lit (.int .u8 14), .lit (.int .u8 24), .lit (.int .u8 3), .lit (.int .u8 30), .lit (.int .u8 22), .lit (.int .u8 20), .lit (.int .u8 15), .lit (.int .u8 25), .lit (.int .u8 17), .lit (.int .u8 4), .lit (.int .u8 8), .lit (.int .u8 31), .lit (.int .u8 27), .lit (.int .u8 13), .lit (.int .u8 23), .lit (.int .u8 21), .lit (.int .u8 19), .lit (.int .u8 16), .lit (.int .u8 7), .lit (.int .u8 26), .lit (.int .u8 12), .lit (.int .u8 18), .lit (.int .u8 6), .lit (.int .u8 11), .lit (.int .u8 5), .lit (.int .u8 10), .lit (.int .u8 9)]
def laid_math_bits_deBruijn64tab {H : Type} : DataW H := .agg [.lit (.int .u8 0), .lit (.int .u8 1), .lit (.int .u8 56), .lit (.int .u8 2), .lit (.int .u8 57), .lit (.int .u8 49), .lit (.int .u8 28), .lit (.int .u8 3), .lit (.int .u8 61), .lit (.int .u8 58), .lit (.int .u8 42), .lit (.int .u8 50), .lit (.int .u8 38), .lit (.int .u8 29), .lit (.int .u8 17), .lit (.int .u8 4), .lit (.int .u8 62), .lit (.int .u8 47), .lit (.int .u8 59), .lit (.int .u8 36), .lit (.int .u8 45), .lit (.int .u8 43), .lit (.int .u8 51), .lit (.int .u8 22), .lit (.int .u8 53), .lit (.int .u8 39), .lit (.int .u8 33), .lit (.int .u8 30), .lit (.int .u8 24), .lit (.int .u8 18), .lit (.int .u8 12), .lit (.int .u8 5), .lit (.int .u8 63), .lit (.int .u8 55), .lit (.int .u8 48), .lit (.int .u8 27), .lit (.int .u8 60), .lit (.int .u8 41), .lit (.int .u8 37), .lit (.int .u8 16), .lit (.int .u8 46), .lit (.int .u8 35), .lit (.int .u8 44), .lit (.int .u8 21), .lit (.int .u8 52), .lit (.int .u8 32), .lit (.int .u8 23), .lit (.int .u8 11), .lit (.int .u8 54), .lit (.int .u8 26), .lit (.int .u8 40), .lit (.int .u8 15), .lit (.int .u8 34), .lit (.int .u8 20), .lit (.int .u8 31), .lit (.int .u8 10), .lit (.int .u8 25), .lit (.int .u8 14), .lit (.int .u8 19), .lit (.int .u8 9), .lit (.int .u8 13), .lit (.int .u8 8), .lit (.int .u8 7), .lit (.int .u8 6)]
def laid_internal_strconv_uint64pow10 {H : Type} : DataW H := .agg [.lit (.int .u64 1), .lit (.int .u64 10), .lit (.int .u64 100), .lit (.int .u64 1000), .lit (.int .u64 10000), .lit (.int .u64 100000), .lit (.int .u64 1000000), .lit (.int .u64 10000000), .lit (.int .u64 100000000), .lit (.int .u64 1000000000), .lit (.int .u64 10000000000), .lit (.int .u64 100000000000), .lit (.int .u64 1000000000000), .lit (.int .u64 10000000000000), .lit (.int .u64 100000000000000), .lit (.int .u64 1000000000000000), .lit (.int .u64 10000000000000000), .lit (.int .u64 100000000000000000), .lit (.int .u64 1000000000000000000), .lit (.int .u64 10000000000000000000)]

/-- 'fiduciallaw39.PropagateGradients': WHATEVER THE INPUT: true; the input reads as it did. -/
def propagateGradientsSpec : ChangeSpec := { name := "propagateGradients", fn := fun _ => fun
  | [d1, d2] => { results := [.lit (.bool true)], args := [d1, d2] }
  | _ => none }
def propagateGradientsRow : OpenClaim := { program := "ytnajallgoaiahaagreatdoor", sum := "778bf4ab94a7e8332e60eff4941d8d598208aed07203cc81d1f3e4883eac825e", func := "fiducial/fiduciallaw39.PropagateGradients", spec := "propagateGradients", unfollowed := true, recurses := true, named := ["internal/strconv.uint64pow10", "math/bits.deBruijn32tab", "math/bits.deBruijn64tab"], apart := false, laid := [("math/bits.deBruijn32tab", laid_math_bits_deBruijn32tab), ("math/bits.deBruijn64tab", laid_math_bits_deBruijn64tab), ("internal/strconv.uint64pow10", laid_internal_strconv_uint64pow10)] }
def PropagateGradientsSaid : Prop := propagateGradientsRow.holds Tryz.pinned (OpenSpec.ofChange propagateGradientsSpec)

/-- ITS FALSE NEIGHBOUR: 'it returns false'. Refute it at one input. -/
def propagateGradientsWrong : ChangeSpec := { name := "propagateGradients", fn := fun _ => fun
  | [d1, d2] => { results := [.lit (.bool false)], args := [d1, d2] }
  | _ => none }
def PropagateGradientsWrongFalsely : Prop := propagateGradientsRow.holds Tryz.pinned (OpenSpec.ofChange propagateGradientsWrong)

/-- 'fiduciallaw39.PropagateVariances': WHATEVER THE INPUT: true; the input reads as it did. -/
def propagateVariancesSpec : ChangeSpec := { name := "propagateVariances", fn := fun _ => fun
  | [d1, d2, d3] => { results := [.lit (.bool true)], args := [d1, d2, d3] }
  | _ => none }
def propagateVariancesRow : OpenClaim := { program := "ytnajallgoaiahaagreatdoor", sum := "778bf4ab94a7e8332e60eff4941d8d598208aed07203cc81d1f3e4883eac825e", func := "fiducial/fiduciallaw39.PropagateVariances", spec := "propagateVariances", unfollowed := true, recurses := true, named := ["internal/strconv.uint64pow10", "math/bits.deBruijn32tab", "math/bits.deBruijn64tab"], apart := false, laid := [("math/bits.deBruijn32tab", laid_math_bits_deBruijn32tab), ("math/bits.deBruijn64tab", laid_math_bits_deBruijn64tab), ("internal/strconv.uint64pow10", laid_internal_strconv_uint64pow10)] }
def PropagateVariancesSaid : Prop := propagateVariancesRow.holds Tryz.pinned (OpenSpec.ofChange propagateVariancesSpec)

/-- ITS FALSE NEIGHBOUR: 'it returns false'. Refute it at one input. -/
def propagateVariancesWrong : ChangeSpec := { name := "propagateVariances", fn := fun _ => fun
  | [d1, d2, d3] => { results := [.lit (.bool false)], args := [d1, d2, d3] }
  | _ => none }
def PropagateVariancesWrongFalsely : Prop := propagateVariancesRow.holds Tryz.pinned (OpenSpec.ofChange propagateVariancesWrong)

/-- 'fiduciallaw39.PropagateCovers': WHATEVER THE INPUT: true; the input reads as it did. -/
def propagateCoversSpec : ChangeSpec := { name := "propagateCovers", fn := fun _ => fun
  | [d1, d2, d3] => { results := [.lit (.bool true)], args := [d1, d2, d3] }
  | _ => none }
def propagateCoversRow : OpenClaim := { program := "ytnajallgoaiahaagreatdoor", sum := "778bf4ab94a7e8332e60eff4941d8d598208aed07203cc81d1f3e4883eac825e", func := "fiducial/fiduciallaw39.PropagateCovers", spec := "propagateCovers", unfollowed := true, recurses := true, named := ["internal/strconv.uint64pow10", "math/bits.deBruijn32tab", "math/bits.deBruijn64tab"], apart := false, laid := [("math/bits.deBruijn32tab", laid_math_bits_deBruijn32tab), ("math/bits.deBruijn64tab", laid_math_bits_deBruijn64tab), ("internal/strconv.uint64pow10", laid_internal_strconv_uint64pow10)] }
def PropagateCoversSaid : Prop := propagateCoversRow.holds Tryz.pinned (OpenSpec.ofChange propagateCoversSpec)

/-- ITS FALSE NEIGHBOUR: 'it returns false'. Refute it at one input. -/
def propagateCoversWrong : ChangeSpec := { name := "propagateCovers", fn := fun _ => fun
  | [d1, d2, d3] => { results := [.lit (.bool false)], args := [d1, d2, d3] }
  | _ => none }
def PropagateCoversWrongFalsely : Prop := propagateCoversRow.holds Tryz.pinned (OpenSpec.ofChange propagateCoversWrong)

/-- 'fiduciallaw39.PropagateEllipses': WHATEVER THE INPUT: true; the input reads as it did. -/
def propagateEllipsesSpec : ChangeSpec := { name := "propagateEllipses", fn := fun _ => fun
  | [d1, d2, d3] => { results := [.lit (.bool true)], args := [d1, d2, d3] }
  | _ => none }
def propagateEllipsesRow : OpenClaim := { program := "ytnajallgoaiahaagreatdoor", sum := "778bf4ab94a7e8332e60eff4941d8d598208aed07203cc81d1f3e4883eac825e", func := "fiducial/fiduciallaw39.PropagateEllipses", spec := "propagateEllipses", unfollowed := true, recurses := true, named := ["internal/strconv.uint64pow10", "math/bits.deBruijn32tab", "math/bits.deBruijn64tab"], apart := false, laid := [("math/bits.deBruijn32tab", laid_math_bits_deBruijn32tab), ("math/bits.deBruijn64tab", laid_math_bits_deBruijn64tab), ("internal/strconv.uint64pow10", laid_internal_strconv_uint64pow10)] }
def PropagateEllipsesSaid : Prop := propagateEllipsesRow.holds Tryz.pinned (OpenSpec.ofChange propagateEllipsesSpec)

/-- ITS FALSE NEIGHBOUR: 'it returns false'. Refute it at one input. -/
def propagateEllipsesWrong : ChangeSpec := { name := "propagateEllipses", fn := fun _ => fun
  | [d1, d2, d3] => { results := [.lit (.bool false)], args := [d1, d2, d3] }
  | _ => none }
def PropagateEllipsesWrongFalsely : Prop := propagateEllipsesRow.holds Tryz.pinned (OpenSpec.ofChange propagateEllipsesWrong)

/-- 'fiduciallaw39.PropagatePositive': WHATEVER THE INPUT: true; the input reads as it did. -/
def propagatePositiveSpec : ChangeSpec := { name := "propagatePositive", fn := fun _ => fun
  | [d1, d2, d3] => { results := [.lit (.bool true)], args := [d1, d2, d3] }
  | _ => none }
def propagatePositiveRow : OpenClaim := { program := "ytnajallgoaiahaagreatdoor", sum := "778bf4ab94a7e8332e60eff4941d8d598208aed07203cc81d1f3e4883eac825e", func := "fiducial/fiduciallaw39.PropagatePositive", spec := "propagatePositive", unfollowed := true, recurses := true, named := ["internal/strconv.uint64pow10", "math/bits.deBruijn32tab", "math/bits.deBruijn64tab"], apart := false, laid := [("math/bits.deBruijn32tab", laid_math_bits_deBruijn32tab), ("math/bits.deBruijn64tab", laid_math_bits_deBruijn64tab), ("internal/strconv.uint64pow10", laid_internal_strconv_uint64pow10)] }
def PropagatePositiveSaid : Prop := propagatePositiveRow.holds Tryz.pinned (OpenSpec.ofChange propagatePositiveSpec)

/-- ITS FALSE NEIGHBOUR: 'it returns false'. Refute it at one input. -/
def propagatePositiveWrong : ChangeSpec := { name := "propagatePositive", fn := fun _ => fun
  | [d1, d2, d3] => { results := [.lit (.bool false)], args := [d1, d2, d3] }
  | _ => none }
def PropagatePositiveWrongFalsely : Prop := propagatePositiveRow.holds Tryz.pinned (OpenSpec.ofChange propagatePositiveWrong)

/-- 'fiduciallaw39.PropagateSums': WHATEVER THE INPUT: true; the input reads as it did. -/
def propagateSumsSpec : ChangeSpec := { name := "propagateSums", fn := fun _ => fun
  | [d1, d2, d3] => { results := [.lit (.bool true)], args := [d1, d2, d3] }
  | _ => none }
def propagateSumsRow : OpenClaim := { program := "ytnajallgoaiahaagreatdoor", sum := "778bf4ab94a7e8332e60eff4941d8d598208aed07203cc81d1f3e4883eac825e", func := "fiducial/fiduciallaw39.PropagateSums", spec := "propagateSums", unfollowed := true, recurses := true, named := ["internal/strconv.uint64pow10", "math/bits.deBruijn32tab", "math/bits.deBruijn64tab"], apart := false, laid := [("math/bits.deBruijn32tab", laid_math_bits_deBruijn32tab), ("math/bits.deBruijn64tab", laid_math_bits_deBruijn64tab), ("internal/strconv.uint64pow10", laid_internal_strconv_uint64pow10)] }
def PropagateSumsSaid : Prop := propagateSumsRow.holds Tryz.pinned (OpenSpec.ofChange propagateSumsSpec)

/-- ITS FALSE NEIGHBOUR: 'it returns false'. Refute it at one input. -/
def propagateSumsWrong : ChangeSpec := { name := "propagateSums", fn := fun _ => fun
  | [d1, d2, d3] => { results := [.lit (.bool false)], args := [d1, d2, d3] }
  | _ => none }
def PropagateSumsWrongFalsely : Prop := propagateSumsRow.holds Tryz.pinned (OpenSpec.ofChange propagateSumsWrong)

/-- 'fiduciallaw39.PropagateBounds': WHATEVER THE INPUT: true; the input reads as it did. -/
def propagateBoundsSpec : ChangeSpec := { name := "propagateBounds", fn := fun _ => fun
  | [d1, d2, d3] => { results := [.lit (.bool true)], args := [d1, d2, d3] }
  | _ => none }
def propagateBoundsRow : OpenClaim := { program := "ytnajallgoaiahaagreatdoor", sum := "778bf4ab94a7e8332e60eff4941d8d598208aed07203cc81d1f3e4883eac825e", func := "fiducial/fiduciallaw39.PropagateBounds", spec := "propagateBounds", unfollowed := true, recurses := true, named := ["internal/strconv.uint64pow10", "math/bits.deBruijn32tab", "math/bits.deBruijn64tab"], apart := false, laid := [("math/bits.deBruijn32tab", laid_math_bits_deBruijn32tab), ("math/bits.deBruijn64tab", laid_math_bits_deBruijn64tab), ("internal/strconv.uint64pow10", laid_internal_strconv_uint64pow10)] }
def PropagateBoundsSaid : Prop := propagateBoundsRow.holds Tryz.pinned (OpenSpec.ofChange propagateBoundsSpec)

/-- ITS FALSE NEIGHBOUR: 'it returns false'. Refute it at one input. -/
def propagateBoundsWrong : ChangeSpec := { name := "propagateBounds", fn := fun _ => fun
  | [d1, d2, d3] => { results := [.lit (.bool false)], args := [d1, d2, d3] }
  | _ => none }
def PropagateBoundsWrongFalsely : Prop := propagateBoundsRow.holds Tryz.pinned (OpenSpec.ofChange propagateBoundsWrong)

/-- 'fiduciallaw39.PropagateTerms': WHATEVER THE INPUT: true; the input reads as it did. -/
def propagateTermsSpec : ChangeSpec := { name := "propagateTerms", fn := fun _ => fun
  | [d1, d2] => { results := [.lit (.bool true)], args := [d1, d2] }
  | _ => none }
def propagateTermsRow : OpenClaim := { program := "ytnajallgoaiahaagreatdoor", sum := "778bf4ab94a7e8332e60eff4941d8d598208aed07203cc81d1f3e4883eac825e", func := "fiducial/fiduciallaw39.PropagateTerms", spec := "propagateTerms", unfollowed := true, recurses := true, named := ["internal/strconv.uint64pow10", "math/bits.deBruijn32tab", "math/bits.deBruijn64tab"], apart := false, laid := [("math/bits.deBruijn32tab", laid_math_bits_deBruijn32tab), ("math/bits.deBruijn64tab", laid_math_bits_deBruijn64tab), ("internal/strconv.uint64pow10", laid_internal_strconv_uint64pow10)] }
def PropagateTermsSaid : Prop := propagateTermsRow.holds Tryz.pinned (OpenSpec.ofChange propagateTermsSpec)

/-- ITS FALSE NEIGHBOUR: 'it returns false'. Refute it at one input. -/
def propagateTermsWrong : ChangeSpec := { name := "propagateTerms", fn := fun _ => fun
  | [d1, d2] => { results := [.lit (.bool false)], args := [d1, d2] }
  | _ => none }
def PropagateTermsWrongFalsely : Prop := propagateTermsRow.holds Tryz.pinned (OpenSpec.ofChange propagateTermsWrong)

/- THE SECOND FORM. 'bulk': how many values and letters a reading holds, each counted each time it is reached (what is shared counts as often as it is met; a slice's spare places count too). A statement '..UptoSaid' is the law's where the arguments, and the package variables that the reading takes, are together of bulk at most 1048576: NARROWER than '..Said'. Prove '..Said' where nothing that the law and all that it calls make is longer than what came in: it says more and counts as full. Else prove '..UptoSaid'. A law counts once. -/
mutual
def uptoBulk {H : Type} : DataW H → Nat
  | .lit (.string bytes) => bytes.length + 1
  | .lit _ => 1
  | .nil => 1
  | .ptr d => uptoBulk d + 1
  | .slice elems spare => uptoBulkAll elems + uptoBulkAll spare + 1
  | .agg parts => uptoBulkAll parts + 1
  | .iface _ d => uptoBulk d + 1
  | .map entries => uptoBulkEntries entries + 1
  | .held _ => 1
def uptoBulkAll {H : Type} : List (DataW H) → Nat
  | [] => 0
  | d :: r => uptoBulk d + uptoBulkAll r
def uptoBulkEntries {H : Type} : List (Lit × DataW H) → Nat
  | [] => 0
  | x :: r => uptoBulkEntry x + uptoBulkEntries r
def uptoBulkEntry {H : Type} : Lit × DataW H → Nat
  | (.string bytes, d) => bytes.length + uptoBulk d + 1
  | (_, d) => uptoBulk d + 1
 end
def uptoSmall : (H : Type) → List (DataW H) → Bool := fun _ ds => decide (uptoBulkAll ds ≤ 1048576)
def OpenSpec.upto (s : _root_.Go.ChangeSpec) : _root_.Go.OpenSpec := { _root_.Go.OpenSpec.ofChange s with cond := some uptoSmall }

/-- 'fiduciallaw39.PropagateGradients', WHERE WHAT IT READS IS OF BULK AT MOST 1048576: true; the input reads as it did. -/
def propagateGradientsUptoRow : OpenClaim := { program := "ytnajallgoaiahaagreatdoor", sum := "778bf4ab94a7e8332e60eff4941d8d598208aed07203cc81d1f3e4883eac825e", func := "fiducial/fiduciallaw39.PropagateGradients", spec := "propagateGradients", unfollowed := true, recurses := true, named := ["internal/strconv.uint64pow10", "math/bits.deBruijn32tab", "math/bits.deBruijn64tab"], apart := false, laid := [("math/bits.deBruijn32tab", laid_math_bits_deBruijn32tab), ("math/bits.deBruijn64tab", laid_math_bits_deBruijn64tab), ("internal/strconv.uint64pow10", laid_internal_strconv_uint64pow10)], narrowed := true }
def PropagateGradientsUptoSaid : Prop := propagateGradientsUptoRow.holds Tryz.pinned (OpenSpec.upto propagateGradientsSpec)

/-- 'fiduciallaw39.PropagateVariances', WHERE WHAT IT READS IS OF BULK AT MOST 1048576: true; the input reads as it did. -/
def propagateVariancesUptoRow : OpenClaim := { program := "ytnajallgoaiahaagreatdoor", sum := "778bf4ab94a7e8332e60eff4941d8d598208aed07203cc81d1f3e4883eac825e", func := "fiducial/fiduciallaw39.PropagateVariances", spec := "propagateVariances", unfollowed := true, recurses := true, named := ["internal/strconv.uint64pow10", "math/bits.deBruijn32tab", "math/bits.deBruijn64tab"], apart := false, laid := [("math/bits.deBruijn32tab", laid_math_bits_deBruijn32tab), ("math/bits.deBruijn64tab", laid_math_bits_deBruijn64tab), ("internal/strconv.uint64pow10", laid_internal_strconv_uint64pow10)], narrowed := true }
def PropagateVariancesUptoSaid : Prop := propagateVariancesUptoRow.holds Tryz.pinned (OpenSpec.upto propagateVariancesSpec)

/-- 'fiduciallaw39.PropagateCovers', WHERE WHAT IT READS IS OF BULK AT MOST 1048576: true; the input reads as it did. -/
def propagateCoversUptoRow : OpenClaim := { program := "ytnajallgoaiahaagreatdoor", sum := "778bf4ab94a7e8332e60eff4941d8d598208aed07203cc81d1f3e4883eac825e", func := "fiducial/fiduciallaw39.PropagateCovers", spec := "propagateCovers", unfollowed := true, recurses := true, named := ["internal/strconv.uint64pow10", "math/bits.deBruijn32tab", "math/bits.deBruijn64tab"], apart := false, laid := [("math/bits.deBruijn32tab", laid_math_bits_deBruijn32tab), ("math/bits.deBruijn64tab", laid_math_bits_deBruijn64tab), ("internal/strconv.uint64pow10", laid_internal_strconv_uint64pow10)], narrowed := true }
def PropagateCoversUptoSaid : Prop := propagateCoversUptoRow.holds Tryz.pinned (OpenSpec.upto propagateCoversSpec)

/-- 'fiduciallaw39.PropagateEllipses', WHERE WHAT IT READS IS OF BULK AT MOST 1048576: true; the input reads as it did. -/
def propagateEllipsesUptoRow : OpenClaim := { program := "ytnajallgoaiahaagreatdoor", sum := "778bf4ab94a7e8332e60eff4941d8d598208aed07203cc81d1f3e4883eac825e", func := "fiducial/fiduciallaw39.PropagateEllipses", spec := "propagateEllipses", unfollowed := true, recurses := true, named := ["internal/strconv.uint64pow10", "math/bits.deBruijn32tab", "math/bits.deBruijn64tab"], apart := false, laid := [("math/bits.deBruijn32tab", laid_math_bits_deBruijn32tab), ("math/bits.deBruijn64tab", laid_math_bits_deBruijn64tab), ("internal/strconv.uint64pow10", laid_internal_strconv_uint64pow10)], narrowed := true }
def PropagateEllipsesUptoSaid : Prop := propagateEllipsesUptoRow.holds Tryz.pinned (OpenSpec.upto propagateEllipsesSpec)

/-- 'fiduciallaw39.PropagatePositive', WHERE WHAT IT READS IS OF BULK AT MOST 1048576: true; the input reads as it did. -/
def propagatePositiveUptoRow : OpenClaim := { program := "ytnajallgoaiahaagreatdoor", sum := "778bf4ab94a7e8332e60eff4941d8d598208aed07203cc81d1f3e4883eac825e", func := "fiducial/fiduciallaw39.PropagatePositive", spec := "propagatePositive", unfollowed := true, recurses := true, named := ["internal/strconv.uint64pow10", "math/bits.deBruijn32tab", "math/bits.deBruijn64tab"], apart := false, laid := [("math/bits.deBruijn32tab", laid_math_bits_deBruijn32tab), ("math/bits.deBruijn64tab", laid_math_bits_deBruijn64tab), ("internal/strconv.uint64pow10", laid_internal_strconv_uint64pow10)], narrowed := true }
def PropagatePositiveUptoSaid : Prop := propagatePositiveUptoRow.holds Tryz.pinned (OpenSpec.upto propagatePositiveSpec)

/-- 'fiduciallaw39.PropagateSums', WHERE WHAT IT READS IS OF BULK AT MOST 1048576: true; the input reads as it did. -/
def propagateSumsUptoRow : OpenClaim := { program := "ytnajallgoaiahaagreatdoor", sum := "778bf4ab94a7e8332e60eff4941d8d598208aed07203cc81d1f3e4883eac825e", func := "fiducial/fiduciallaw39.PropagateSums", spec := "propagateSums", unfollowed := true, recurses := true, named := ["internal/strconv.uint64pow10", "math/bits.deBruijn32tab", "math/bits.deBruijn64tab"], apart := false, laid := [("math/bits.deBruijn32tab", laid_math_bits_deBruijn32tab), ("math/bits.deBruijn64tab", laid_math_bits_deBruijn64tab), ("internal/strconv.uint64pow10", laid_internal_strconv_uint64pow10)], narrowed := true }
def PropagateSumsUptoSaid : Prop := propagateSumsUptoRow.holds Tryz.pinned (OpenSpec.upto propagateSumsSpec)

/-- 'fiduciallaw39.PropagateBounds', WHERE WHAT IT READS IS OF BULK AT MOST 1048576: true; the input reads as it did. -/
def propagateBoundsUptoRow : OpenClaim := { program := "ytnajallgoaiahaagreatdoor", sum := "778bf4ab94a7e8332e60eff4941d8d598208aed07203cc81d1f3e4883eac825e", func := "fiducial/fiduciallaw39.PropagateBounds", spec := "propagateBounds", unfollowed := true, recurses := true, named := ["internal/strconv.uint64pow10", "math/bits.deBruijn32tab", "math/bits.deBruijn64tab"], apart := false, laid := [("math/bits.deBruijn32tab", laid_math_bits_deBruijn32tab), ("math/bits.deBruijn64tab", laid_math_bits_deBruijn64tab), ("internal/strconv.uint64pow10", laid_internal_strconv_uint64pow10)], narrowed := true }
def PropagateBoundsUptoSaid : Prop := propagateBoundsUptoRow.holds Tryz.pinned (OpenSpec.upto propagateBoundsSpec)

/-- 'fiduciallaw39.PropagateTerms', WHERE WHAT IT READS IS OF BULK AT MOST 1048576: true; the input reads as it did. -/
def propagateTermsUptoRow : OpenClaim := { program := "ytnajallgoaiahaagreatdoor", sum := "778bf4ab94a7e8332e60eff4941d8d598208aed07203cc81d1f3e4883eac825e", func := "fiducial/fiduciallaw39.PropagateTerms", spec := "propagateTerms", unfollowed := true, recurses := true, named := ["internal/strconv.uint64pow10", "math/bits.deBruijn32tab", "math/bits.deBruijn64tab"], apart := false, laid := [("math/bits.deBruijn32tab", laid_math_bits_deBruijn32tab), ("math/bits.deBruijn64tab", laid_math_bits_deBruijn64tab), ("internal/strconv.uint64pow10", laid_internal_strconv_uint64pow10)], narrowed := true }
def PropagateTermsUptoSaid : Prop := propagateTermsUptoRow.holds Tryz.pinned (OpenSpec.upto propagateTermsSpec)

end Rows
end Go.Proofs.YtnajallgoaiahaaGreatDoor
