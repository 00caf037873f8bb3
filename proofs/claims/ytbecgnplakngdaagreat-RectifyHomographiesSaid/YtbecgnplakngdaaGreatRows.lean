/-
  No cell of these rows narrows 'for every input' (looked for: loops, veiled, ifaces, maps, wideKeys, modest, calm, conditions, laid).
  DERIVED. THE GIVEN ROWS OF THIS SEAT. 9 by the template 'for every input the law returns true; each argument reads behind the call as it read before'; 0 by the template 'total and deterministic' (their statements: YtbecgnplakngdaaGreatTotals.lean).
  GIVEN WITH THE SEED: the statements are not yours to turn. If you find one false, say at which input.
  Laid BY PROGRAM, IN A SANDBOX (cutbox-rows.mjs): the forced cells as the released guide's own fill.sh prints them over the translation 6892cb62d1b7f7e6… (all of the seat's roots in one cut). By AI agents, Wed Nov 11 2026. No macro, syntax, notation, axiom, sorry.
-/
import Derived.Test.YtbecgnplakngdaaGreatChecked
import GoSem.Claim
import GoSem.ClaimJoined
import GoSem.ClaimMapViews
import Derived.JoinedTies
import Derived.KernelRfl
namespace Go.Proofs.YtbecgnplakngdaaGreat
/- THE CELL 'sum', in the pinned program and in every row, IS THE sha256 OF THE DUMP (.gsa) THAT YtbecgnplakngdaaGreatProg.lean LOADS. Nothing in Lean hashes anything: it is a label: what it is worth is what the hold of that sum in a sandbox is worth. -/
noncomputable def Tryz.pinned : Pinned := { name := "ytbecgnplakngdaagreat", sum := "6892cb62d1b7f7e65367285f50b044797d69ff317dc864269e38581132c6f1c6", checked := Tryz.checked }
namespace Rows
def none {H : Type} : Left H := { results := [], args := [] }

/-- 'fiduciallaw43.RectifyFundamentals': WHATEVER THE INPUT: true; the input reads as it did. -/
def rectifyFundamentalsSpec : ChangeSpec := { name := "rectifyFundamentals", fn := fun _ => fun
  | [d1, d2] => { results := [.lit (.bool true)], args := [d1, d2] }
  | _ => none }
def rectifyFundamentalsRow : OpenClaim := { program := "ytbecgnplakngdaagreat", sum := "6892cb62d1b7f7e65367285f50b044797d69ff317dc864269e38581132c6f1c6", func := "fiducial/fiduciallaw43.RectifyFundamentals", spec := "rectifyFundamentals", unfollowed := true, recurses := true, apart := false }
def RectifyFundamentalsSaid : Prop := rectifyFundamentalsRow.holds Tryz.pinned (OpenSpec.ofChange rectifyFundamentalsSpec)

/-- ITS FALSE NEIGHBOUR: 'it returns false'. Refute it at one input. -/
def rectifyFundamentalsWrong : ChangeSpec := { name := "rectifyFundamentals", fn := fun _ => fun
  | [d1, d2] => { results := [.lit (.bool false)], args := [d1, d2] }
  | _ => none }
def RectifyFundamentalsWrongFalsely : Prop := rectifyFundamentalsRow.holds Tryz.pinned (OpenSpec.ofChange rectifyFundamentalsWrong)

/-- 'fiduciallaw43.RectifyAxes': WHATEVER THE INPUT: true; the input reads as it did. -/
def rectifyAxesSpec : ChangeSpec := { name := "rectifyAxes", fn := fun _ => fun
  | [d] => { results := [.lit (.bool true)], args := [d] }
  | _ => none }
def rectifyAxesRow : OpenClaim := { program := "ytbecgnplakngdaagreat", sum := "6892cb62d1b7f7e65367285f50b044797d69ff317dc864269e38581132c6f1c6", func := "fiducial/fiduciallaw43.RectifyAxes", spec := "rectifyAxes", unfollowed := true, recurses := true, apart := false }
def RectifyAxesSaid : Prop := rectifyAxesRow.holds Tryz.pinned (OpenSpec.ofChange rectifyAxesSpec)

/-- ITS FALSE NEIGHBOUR: 'it returns false'. Refute it at one input. -/
def rectifyAxesWrong : ChangeSpec := { name := "rectifyAxes", fn := fun _ => fun
  | [d] => { results := [.lit (.bool false)], args := [d] }
  | _ => none }
def RectifyAxesWrongFalsely : Prop := rectifyAxesRow.holds Tryz.pinned (OpenSpec.ofChange rectifyAxesWrong)

/-- 'fiduciallaw43.RectifyRows': WHATEVER THE INPUT: true; the input reads as it did. -/
def rectifyRowsSpec : ChangeSpec := { name := "rectifyRows", fn := fun _ => fun
  | [d1, d2] => { results := [.lit (.bool true)], args := [d1, d2] }
  | _ => none }
def rectifyRowsRow : OpenClaim := { program := "ytbecgnplakngdaagreat", sum := "6892cb62d1b7f7e65367285f50b044797d69ff317dc864269e38581132c6f1c6", func := "fiducial/fiduciallaw43.RectifyRows", spec := "rectifyRows", unfollowed := true, recurses := true, apart := false }
def RectifyRowsSaid : Prop := rectifyRowsRow.holds Tryz.pinned (OpenSpec.ofChange rectifyRowsSpec)

/-- ITS FALSE NEIGHBOUR: 'it returns false'. Refute it at one input. -/
def rectifyRowsWrong : ChangeSpec := { name := "rectifyRows", fn := fun _ => fun
  | [d1, d2] => { results := [.lit (.bool false)], args := [d1, d2] }
  | _ => none }
def RectifyRowsWrongFalsely : Prop := rectifyRowsRow.holds Tryz.pinned (OpenSpec.ofChange rectifyRowsWrong)

/-- 'fiduciallaw43.RectifyPoints': WHATEVER THE INPUT: true; the input reads as it did. -/
def rectifyPointsSpec : ChangeSpec := { name := "rectifyPoints", fn := fun _ => fun
  | [d1, d2] => { results := [.lit (.bool true)], args := [d1, d2] }
  | _ => none }
def rectifyPointsRow : OpenClaim := { program := "ytbecgnplakngdaagreat", sum := "6892cb62d1b7f7e65367285f50b044797d69ff317dc864269e38581132c6f1c6", func := "fiducial/fiduciallaw43.RectifyPoints", spec := "rectifyPoints", unfollowed := true, recurses := true, apart := false }
def RectifyPointsSaid : Prop := rectifyPointsRow.holds Tryz.pinned (OpenSpec.ofChange rectifyPointsSpec)

/-- ITS FALSE NEIGHBOUR: 'it returns false'. Refute it at one input. -/
def rectifyPointsWrong : ChangeSpec := { name := "rectifyPoints", fn := fun _ => fun
  | [d1, d2] => { results := [.lit (.bool false)], args := [d1, d2] }
  | _ => none }
def RectifyPointsWrongFalsely : Prop := rectifyPointsRow.holds Tryz.pinned (OpenSpec.ofChange rectifyPointsWrong)

/-- 'fiduciallaw43.RectifyDepths': WHATEVER THE INPUT: true; the input reads as it did. -/
def rectifyDepthsSpec : ChangeSpec := { name := "rectifyDepths", fn := fun _ => fun
  | [d1, d2, d3] => { results := [.lit (.bool true)], args := [d1, d2, d3] }
  | _ => none }
def rectifyDepthsRow : OpenClaim := { program := "ytbecgnplakngdaagreat", sum := "6892cb62d1b7f7e65367285f50b044797d69ff317dc864269e38581132c6f1c6", func := "fiducial/fiduciallaw43.RectifyDepths", spec := "rectifyDepths", unfollowed := true, recurses := true, apart := false }
def RectifyDepthsSaid : Prop := rectifyDepthsRow.holds Tryz.pinned (OpenSpec.ofChange rectifyDepthsSpec)

/-- ITS FALSE NEIGHBOUR: 'it returns false'. Refute it at one input. -/
def rectifyDepthsWrong : ChangeSpec := { name := "rectifyDepths", fn := fun _ => fun
  | [d1, d2, d3] => { results := [.lit (.bool false)], args := [d1, d2, d3] }
  | _ => none }
def RectifyDepthsWrongFalsely : Prop := rectifyDepthsRow.holds Tryz.pinned (OpenSpec.ofChange rectifyDepthsWrong)

/-- 'fiduciallaw43.RectifyMaps': WHATEVER THE INPUT: true; the input reads as it did. -/
def rectifyMapsSpec : ChangeSpec := { name := "rectifyMaps", fn := fun _ => fun
  | [d1, d2, d3] => { results := [.lit (.bool true)], args := [d1, d2, d3] }
  | _ => none }
def rectifyMapsRow : OpenClaim := { program := "ytbecgnplakngdaagreat", sum := "6892cb62d1b7f7e65367285f50b044797d69ff317dc864269e38581132c6f1c6", func := "fiducial/fiduciallaw43.RectifyMaps", spec := "rectifyMaps", unfollowed := true, recurses := true, apart := false }
def RectifyMapsSaid : Prop := rectifyMapsRow.holds Tryz.pinned (OpenSpec.ofChange rectifyMapsSpec)

/-- ITS FALSE NEIGHBOUR: 'it returns false'. Refute it at one input. -/
def rectifyMapsWrong : ChangeSpec := { name := "rectifyMaps", fn := fun _ => fun
  | [d1, d2, d3] => { results := [.lit (.bool false)], args := [d1, d2, d3] }
  | _ => none }
def RectifyMapsWrongFalsely : Prop := rectifyMapsRow.holds Tryz.pinned (OpenSpec.ofChange rectifyMapsWrong)

/-- 'fiduciallaw43.RectifyHomographies': WHATEVER THE INPUT: true; the input reads as it did. -/
def rectifyHomographiesSpec : ChangeSpec := { name := "rectifyHomographies", fn := fun _ => fun
  | [d1, d2, d3] => { results := [.lit (.bool true)], args := [d1, d2, d3] }
  | _ => none }
def rectifyHomographiesRow : OpenClaim := { program := "ytbecgnplakngdaagreat", sum := "6892cb62d1b7f7e65367285f50b044797d69ff317dc864269e38581132c6f1c6", func := "fiducial/fiduciallaw43.RectifyHomographies", spec := "rectifyHomographies", unfollowed := true, recurses := true, apart := false }
def RectifyHomographiesSaid : Prop := rectifyHomographiesRow.holds Tryz.pinned (OpenSpec.ofChange rectifyHomographiesSpec)

/-- ITS FALSE NEIGHBOUR: 'it returns false'. Refute it at one input. -/
def rectifyHomographiesWrong : ChangeSpec := { name := "rectifyHomographies", fn := fun _ => fun
  | [d1, d2, d3] => { results := [.lit (.bool false)], args := [d1, d2, d3] }
  | _ => none }
def RectifyHomographiesWrongFalsely : Prop := rectifyHomographiesRow.holds Tryz.pinned (OpenSpec.ofChange rectifyHomographiesWrong)

/-- 'fiduciallaw43.RectifyResamples': WHATEVER THE INPUT: true; the input reads as it did. -/
def rectifyResamplesSpec : ChangeSpec := { name := "rectifyResamples", fn := fun _ => fun
  | [d1, d2, d3] => { results := [.lit (.bool true)], args := [d1, d2, d3] }
  | _ => none }
def rectifyResamplesRow : OpenClaim := { program := "ytbecgnplakngdaagreat", sum := "6892cb62d1b7f7e65367285f50b044797d69ff317dc864269e38581132c6f1c6", func := "fiducial/fiduciallaw43.RectifyResamples", spec := "rectifyResamples", unfollowed := true, recurses := true, apart := false }
def RectifyResamplesSaid : Prop := rectifyResamplesRow.holds Tryz.pinned (OpenSpec.ofChange rectifyResamplesSpec)

/-- ITS FALSE NEIGHBOUR: 'it returns false'. Refute it at one input. -/
def rectifyResamplesWrong : ChangeSpec := { name := "rectifyResamples", fn := fun _ => fun
  | [d1, d2, d3] => { results := [.lit (.bool false)], args := [d1, d2, d3] }
  | _ => none }
def RectifyResamplesWrongFalsely : Prop := rectifyResamplesRow.holds Tryz.pinned (OpenSpec.ofChange rectifyResamplesWrong)

/-- 'fiducialtop.TopRectified': WHATEVER THE INPUT: true; the input reads as it did. -/
def topRectifiedSpec : ChangeSpec := { name := "topRectified", fn := fun _ => fun
  | [d1, d2, d3] => { results := [.lit (.bool true)], args := [d1, d2, d3] }
  | _ => none }
def topRectifiedRow : OpenClaim := { program := "ytbecgnplakngdaagreat", sum := "6892cb62d1b7f7e65367285f50b044797d69ff317dc864269e38581132c6f1c6", func := "fiducial/fiducialtop.TopRectified", spec := "topRectified", unfollowed := true, recurses := true, apart := false }
def TopRectifiedSaid : Prop := topRectifiedRow.holds Tryz.pinned (OpenSpec.ofChange topRectifiedSpec)

/-- ITS FALSE NEIGHBOUR: 'it returns false'. Refute it at one input. -/
def topRectifiedWrong : ChangeSpec := { name := "topRectified", fn := fun _ => fun
  | [d1, d2, d3] => { results := [.lit (.bool false)], args := [d1, d2, d3] }
  | _ => none }
def TopRectifiedWrongFalsely : Prop := topRectifiedRow.holds Tryz.pinned (OpenSpec.ofChange topRectifiedWrong)

/- THE SECOND FORM. 'bulk': how many values and letters a reading holds, each counted each time it is reached (what is shared counts as often as it is met; a slice's spare places count too). A statement '..UptoSaid' is the law's where the arguments, and the package variables that the reading takes, are together of bulk at most 1048576: NARROWER than '..Said'. Prove '..Said' where nothing that the law and all that it calls make is longer than what came in: it says more and counts as full. Else prove '..UptoSaid'. A law counts once. -/
mutual
def uptoBulk {H : Type} : DataW H → Nat
  | .lit (.string bytes) => bytes.length + 1
  | .lit _ => 1
  | .nil => 1
  | .ptr d => uptoBulk d + 1
  | .slice elems spare => uptoBulkAll elems + uptoBulkAll spare + 1
  | .agg parts => uptoBulkAll parts + 1
  | .iface _ d => uptoBulk d + 1
  | .map entries => uptoBulkEntries entries + 1
  | .held _ => 1
def uptoBulkAll {H : Type} : List (DataW H) → Nat
  | [] => 0
  | d :: r => uptoBulk d + uptoBulkAll r
def uptoBulkEntries {H : Type} : List (Lit × DataW H) → Nat
  | [] => 0
  | x :: r => uptoBulkEntry x + uptoBulkEntries r
def uptoBulkEntry {H : Type} : Lit × DataW H → Nat
  | (.string bytes, d) => bytes.length + uptoBulk d + 1
  | (_, d) => uptoBulk d + 1
 end
def uptoSmall : (H : Type) → List (DataW H) → Bool := fun _ ds => decide (uptoBulkAll ds ≤ 1048576)
def OpenSpec.upto (s : _root_.Go.ChangeSpec) : _root_.Go.OpenSpec := { _root_.Go.OpenSpec.ofChange s with cond := some uptoSmall }

/-- 'fiduciallaw43.RectifyFundamentals', WHERE WHAT IT READS IS OF BULK AT MOST 1048576: true; the input reads as it did. -/
def rectifyFundamentalsUptoRow : OpenClaim := { program := "ytbecgnplakngdaagreat", sum := "6892cb62d1b7f7e65367285f50b044797d69ff317dc864269e38581132c6f1c6", func := "fiducial/fiduciallaw43.RectifyFundamentals", spec := "rectifyFundamentals", unfollowed := true, recurses := true, apart := false, narrowed := true }
def RectifyFundamentalsUptoSaid : Prop := rectifyFundamentalsUptoRow.holds Tryz.pinned (OpenSpec.upto rectifyFundamentalsSpec)

/-- 'fiduciallaw43.RectifyAxes', WHERE WHAT IT READS IS OF BULK AT MOST 1048576: true; the input reads as it did. -/
def rectifyAxesUptoRow : OpenClaim := { program := "ytbecgnplakngdaagreat", sum := "6892cb62d1b7f7e65367285f50b044797d69ff317dc864269e38581132c6f1c6", func := "fiducial/fiduciallaw43.RectifyAxes", spec := "rectifyAxes", unfollowed := true, recurses := true, apart := false, narrowed := true }
def RectifyAxesUptoSaid : Prop := rectifyAxesUptoRow.holds Tryz.pinned (OpenSpec.upto rectifyAxesSpec)

/-- 'fiduciallaw43.RectifyRows', WHERE WHAT IT READS IS OF BULK AT MOST 1048576: true; the input reads as it did. -/
def rectifyRowsUptoRow : OpenClaim := { program := "ytbecgnplakngdaagreat", sum := "6892cb62d1b7f7e65367285f50b044797d69ff317dc864269e38581132c6f1c6", func := "fiducial/fiduciallaw43.RectifyRows", spec := "rectifyRows", unfollowed := true, recurses := true, apart := false, narrowed := true }
def RectifyRowsUptoSaid : Prop := rectifyRowsUptoRow.holds Tryz.pinned (OpenSpec.upto rectifyRowsSpec)

/-- 'fiduciallaw43.RectifyPoints', WHERE WHAT IT READS IS OF BULK AT MOST 1048576: true; the input reads as it did. -/
def rectifyPointsUptoRow : OpenClaim := { program := "ytbecgnplakngdaagreat", sum := "6892cb62d1b7f7e65367285f50b044797d69ff317dc864269e38581132c6f1c6", func := "fiducial/fiduciallaw43.RectifyPoints", spec := "rectifyPoints", unfollowed := true, recurses := true, apart := false, narrowed := true }
def RectifyPointsUptoSaid : Prop := rectifyPointsUptoRow.holds Tryz.pinned (OpenSpec.upto rectifyPointsSpec)

/-- 'fiduciallaw43.RectifyDepths', WHERE WHAT IT READS IS OF BULK AT MOST 1048576: true; the input reads as it did. -/
def rectifyDepthsUptoRow : OpenClaim := { program := "ytbecgnplakngdaagreat", sum := "6892cb62d1b7f7e65367285f50b044797d69ff317dc864269e38581132c6f1c6", func := "fiducial/fiduciallaw43.RectifyDepths", spec := "rectifyDepths", unfollowed := true, recurses := true, apart := false, narrowed := true }
def RectifyDepthsUptoSaid : Prop := rectifyDepthsUptoRow.holds Tryz.pinned (OpenSpec.upto rectifyDepthsSpec)

/-- 'fiduciallaw43.RectifyMaps', WHERE WHAT IT READS IS OF BULK AT MOST 1048576: true; the input reads as it did. -/
def rectifyMapsUptoRow : OpenClaim := { program := "ytbecgnplakngdaagreat", sum := "6892cb62d1b7f7e65367285f50b044797d69ff317dc864269e38581132c6f1c6", func := "fiducial/fiduciallaw43.RectifyMaps", spec := "rectifyMaps", unfollowed := true, recurses := true, apart := false, narrowed := true }
def RectifyMapsUptoSaid : Prop := rectifyMapsUptoRow.holds Tryz.pinned (OpenSpec.upto rectifyMapsSpec)

/-- 'fiduciallaw43.RectifyHomographies', WHERE WHAT IT READS IS OF BULK AT MOST 1048576: true; the input reads as it did. -/
def rectifyHomographiesUptoRow : OpenClaim := { program := "ytbecgnplakngdaagreat", sum := "6892cb62d1b7f7e65367285f50b044797d69ff317dc864269e38581132c6f1c6", func := "fiducial/fiduciallaw43.RectifyHomographies", spec := "rectifyHomographies", unfollowed := true, recurses := true, apart := false, narrowed := true }
def RectifyHomographiesUptoSaid : Prop := rectifyHomographiesUptoRow.holds Tryz.pinned (OpenSpec.upto rectifyHomographiesSpec)

/-- 'fiduciallaw43.RectifyResamples', WHERE WHAT IT READS IS OF BULK AT MOST 1048576: true; the input reads as it did. -/
def rectifyResamplesUptoRow : OpenClaim := { program := "ytbecgnplakngdaagreat", sum := "6892cb62d1b7f7e65367285f50b044797d69ff317dc864269e38581132c6f1c6", func := "fiducial/fiduciallaw43.RectifyResamples", spec := "rectifyResamples", unfollowed := true, recurses := true, apart := false, narrowed := true }
def RectifyResamplesUptoSaid : Prop := rectifyResamplesUptoRow.holds Tryz.pinned (OpenSpec.upto rectifyResamplesSpec)

/-- 'fiducialtop.TopRectified', WHERE WHAT IT READS IS OF BULK AT MOST 1048576: true; the input reads as it did. -/
def topRectifiedUptoRow : OpenClaim := { program := "ytbecgnplakngdaagreat", sum := "6892cb62d1b7f7e65367285f50b044797d69ff317dc864269e38581132c6f1c6", func := "fiducial/fiducialtop.TopRectified", spec := "topRectified", unfollowed := true, recurses := true, apart := false, narrowed := true }
def TopRectifiedUptoSaid : Prop := topRectifiedUptoRow.holds Tryz.pinned (OpenSpec.upto topRectifiedSpec)

end Rows
end Go.Proofs.YtbecgnplakngdaaGreat
