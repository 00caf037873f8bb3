/-
  No cell of these rows narrows 'for every input' (looked for: loops, veiled, ifaces, maps, wideKeys, modest, calm, conditions, laid).
  DERIVED. THE GIVEN ROWS OF THIS SEAT. 7 by the template 'for every input the law returns true; each argument reads behind the call as it read before'; 0 by the template 'total and deterministic' (their statements: YtcdgmcfkhkikbaaGreatTotals.lean).
  GIVEN WITH THE SEED: the statements are not yours to turn. If you find one false, say at which input.
  Laid BY PROGRAM, IN A SANDBOX (cutbox-rows.mjs): the forced cells as the released guide's own fill.sh prints them over the translation f1370cf5516d6932… (all of the seat's roots in one cut). By AI agents, Wed Nov 11 2026. No macro, syntax, notation, axiom, sorry.
-/
import Derived.Test.YtcdgmcfkhkikbaaGreatChecked
import GoSem.Claim
import GoSem.ClaimJoined
import GoSem.ClaimMapViews
import Derived.JoinedTies
import Derived.KernelRfl
namespace Go.Proofs.YtcdgmcfkhkikbaaGreat
/- THE CELL 'sum', in the pinned program and in every row, IS THE sha256 OF THE DUMP (.gsa) THAT YtcdgmcfkhkikbaaGreatProg.lean LOADS. Nothing in Lean hashes anything: it is a label: what it is worth is what the hold of that sum in a sandbox is worth. -/
noncomputable def Tryz.pinned : Pinned := { name := "ytcdgmcfkhkikbaagreat", sum := "f1370cf5516d69327b7a0dc1614196025874823a1bd6330e687bc4e59a303b2f", checked := Tryz.checked }
namespace Rows
def none {H : Type} : Left H := { results := [], args := [] }

/-- 'fiduciallaw03.IntervalBounds': WHATEVER THE INPUT: true; the input reads as it did. -/
def intervalBoundsSpec : ChangeSpec := { name := "intervalBounds", fn := fun _ => fun
  | [d1, d2, d3] => { results := [.lit (.bool true)], args := [d1, d2, d3] }
  | _ => none }
def intervalBoundsRow : OpenClaim := { program := "ytcdgmcfkhkikbaagreat", sum := "f1370cf5516d69327b7a0dc1614196025874823a1bd6330e687bc4e59a303b2f", func := "fiducial/fiduciallaw03.IntervalBounds", spec := "intervalBounds", unfollowed := true, recurses := true, apart := false }
def IntervalBoundsSaid : Prop := intervalBoundsRow.holds Tryz.pinned (OpenSpec.ofChange intervalBoundsSpec)

/-- ITS FALSE NEIGHBOUR: 'it returns false'. Refute it at one input. -/
def intervalBoundsWrong : ChangeSpec := { name := "intervalBounds", fn := fun _ => fun
  | [d1, d2, d3] => { results := [.lit (.bool false)], args := [d1, d2, d3] }
  | _ => none }
def IntervalBoundsWrongFalsely : Prop := intervalBoundsRow.holds Tryz.pinned (OpenSpec.ofChange intervalBoundsWrong)

/-- 'fiduciallaw03.IntervalForms': WHATEVER THE INPUT: true; the input reads as it did. -/
def intervalFormsSpec : ChangeSpec := { name := "intervalForms", fn := fun _ => fun
  | [d1, d2, d3] => { results := [.lit (.bool true)], args := [d1, d2, d3] }
  | _ => none }
def intervalFormsRow : OpenClaim := { program := "ytcdgmcfkhkikbaagreat", sum := "f1370cf5516d69327b7a0dc1614196025874823a1bd6330e687bc4e59a303b2f", func := "fiducial/fiduciallaw03.IntervalForms", spec := "intervalForms", unfollowed := true, recurses := true, apart := false }
def IntervalFormsSaid : Prop := intervalFormsRow.holds Tryz.pinned (OpenSpec.ofChange intervalFormsSpec)

/-- ITS FALSE NEIGHBOUR: 'it returns false'. Refute it at one input. -/
def intervalFormsWrong : ChangeSpec := { name := "intervalForms", fn := fun _ => fun
  | [d1, d2, d3] => { results := [.lit (.bool false)], args := [d1, d2, d3] }
  | _ => none }
def IntervalFormsWrongFalsely : Prop := intervalFormsRow.holds Tryz.pinned (OpenSpec.ofChange intervalFormsWrong)

/-- 'fiduciallaw03.IntervalMonotone': WHATEVER THE INPUT: true; the input reads as it did. -/
def intervalMonotoneSpec : ChangeSpec := { name := "intervalMonotone", fn := fun _ => fun
  | [d1, d2, d3] => { results := [.lit (.bool true)], args := [d1, d2, d3] }
  | _ => none }
def intervalMonotoneRow : OpenClaim := { program := "ytcdgmcfkhkikbaagreat", sum := "f1370cf5516d69327b7a0dc1614196025874823a1bd6330e687bc4e59a303b2f", func := "fiducial/fiduciallaw03.IntervalMonotone", spec := "intervalMonotone", unfollowed := true, recurses := true, apart := false }
def IntervalMonotoneSaid : Prop := intervalMonotoneRow.holds Tryz.pinned (OpenSpec.ofChange intervalMonotoneSpec)

/-- ITS FALSE NEIGHBOUR: 'it returns false'. Refute it at one input. -/
def intervalMonotoneWrong : ChangeSpec := { name := "intervalMonotone", fn := fun _ => fun
  | [d1, d2, d3] => { results := [.lit (.bool false)], args := [d1, d2, d3] }
  | _ => none }
def IntervalMonotoneWrongFalsely : Prop := intervalMonotoneRow.holds Tryz.pinned (OpenSpec.ofChange intervalMonotoneWrong)

/-- 'fiduciallaw03.IntervalEncloses': WHATEVER THE INPUT: true; the input reads as it did. -/
def intervalEnclosesSpec : ChangeSpec := { name := "intervalEncloses", fn := fun _ => fun
  | [d1, d2, d3] => { results := [.lit (.bool true)], args := [d1, d2, d3] }
  | _ => none }
def intervalEnclosesRow : OpenClaim := { program := "ytcdgmcfkhkikbaagreat", sum := "f1370cf5516d69327b7a0dc1614196025874823a1bd6330e687bc4e59a303b2f", func := "fiducial/fiduciallaw03.IntervalEncloses", spec := "intervalEncloses", unfollowed := true, recurses := true, apart := false }
def IntervalEnclosesSaid : Prop := intervalEnclosesRow.holds Tryz.pinned (OpenSpec.ofChange intervalEnclosesSpec)

/-- ITS FALSE NEIGHBOUR: 'it returns false'. Refute it at one input. -/
def intervalEnclosesWrong : ChangeSpec := { name := "intervalEncloses", fn := fun _ => fun
  | [d1, d2, d3] => { results := [.lit (.bool false)], args := [d1, d2, d3] }
  | _ => none }
def IntervalEnclosesWrongFalsely : Prop := intervalEnclosesRow.holds Tryz.pinned (OpenSpec.ofChange intervalEnclosesWrong)

/-- 'fiduciallaw03.IntervalDots': WHATEVER THE INPUT: true; the input reads as it did. -/
def intervalDotsSpec : ChangeSpec := { name := "intervalDots", fn := fun _ => fun
  | [d1, d2] => { results := [.lit (.bool true)], args := [d1, d2] }
  | _ => none }
def intervalDotsRow : OpenClaim := { program := "ytcdgmcfkhkikbaagreat", sum := "f1370cf5516d69327b7a0dc1614196025874823a1bd6330e687bc4e59a303b2f", func := "fiducial/fiduciallaw03.IntervalDots", spec := "intervalDots", unfollowed := true, recurses := true, apart := false }
def IntervalDotsSaid : Prop := intervalDotsRow.holds Tryz.pinned (OpenSpec.ofChange intervalDotsSpec)

/-- ITS FALSE NEIGHBOUR: 'it returns false'. Refute it at one input. -/
def intervalDotsWrong : ChangeSpec := { name := "intervalDots", fn := fun _ => fun
  | [d1, d2] => { results := [.lit (.bool false)], args := [d1, d2] }
  | _ => none }
def IntervalDotsWrongFalsely : Prop := intervalDotsRow.holds Tryz.pinned (OpenSpec.ofChange intervalDotsWrong)

/-- 'fiduciallaw03.IntervalImages': WHATEVER THE INPUT: true; the input reads as it did. -/
def intervalImagesSpec : ChangeSpec := { name := "intervalImages", fn := fun _ => fun
  | [d1, d2] => { results := [.lit (.bool true)], args := [d1, d2] }
  | _ => none }
def intervalImagesRow : OpenClaim := { program := "ytcdgmcfkhkikbaagreat", sum := "f1370cf5516d69327b7a0dc1614196025874823a1bd6330e687bc4e59a303b2f", func := "fiducial/fiduciallaw03.IntervalImages", spec := "intervalImages", unfollowed := true, recurses := true, apart := false }
def IntervalImagesSaid : Prop := intervalImagesRow.holds Tryz.pinned (OpenSpec.ofChange intervalImagesSpec)

/-- ITS FALSE NEIGHBOUR: 'it returns false'. Refute it at one input. -/
def intervalImagesWrong : ChangeSpec := { name := "intervalImages", fn := fun _ => fun
  | [d1, d2] => { results := [.lit (.bool false)], args := [d1, d2] }
  | _ => none }
def IntervalImagesWrongFalsely : Prop := intervalImagesRow.holds Tryz.pinned (OpenSpec.ofChange intervalImagesWrong)

/-- 'fiduciallaw03.IntervalSizes': WHATEVER THE INPUT: true; the input reads as it did. -/
def intervalSizesSpec : ChangeSpec := { name := "intervalSizes", fn := fun _ => fun
  | [d] => { results := [.lit (.bool true)], args := [d] }
  | _ => none }
def intervalSizesRow : OpenClaim := { program := "ytcdgmcfkhkikbaagreat", sum := "f1370cf5516d69327b7a0dc1614196025874823a1bd6330e687bc4e59a303b2f", func := "fiducial/fiduciallaw03.IntervalSizes", spec := "intervalSizes", unfollowed := true, recurses := true, apart := false }
def IntervalSizesSaid : Prop := intervalSizesRow.holds Tryz.pinned (OpenSpec.ofChange intervalSizesSpec)

/-- ITS FALSE NEIGHBOUR: 'it returns false'. Refute it at one input. -/
def intervalSizesWrong : ChangeSpec := { name := "intervalSizes", fn := fun _ => fun
  | [d] => { results := [.lit (.bool false)], args := [d] }
  | _ => none }
def IntervalSizesWrongFalsely : Prop := intervalSizesRow.holds Tryz.pinned (OpenSpec.ofChange intervalSizesWrong)

/- THE SECOND FORM. 'bulk': how many values and letters a reading holds, each counted each time it is reached (what is shared counts as often as it is met; a slice's spare places count too). A statement '..UptoSaid' is the law's where the arguments, and the package variables that the reading takes, are together of bulk at most 1048576: NARROWER than '..Said'. Prove '..Said' where nothing that the law and all that it calls make is longer than what came in: it says more and counts as full. Else prove '..UptoSaid'. A law counts once. -/
mutual
def uptoBulk {H : Type} : DataW H → Nat
  | .lit (.string bytes) => bytes.length + 1
  | .lit _ => 1
  | .nil => 1
  | .ptr d => uptoBulk d + 1
  | .slice elems spare => uptoBulkAll elems + uptoBulkAll spare + 1
  | .agg parts => uptoBulkAll parts + 1
  | .iface _ d => uptoBulk d + 1
  | .map entries => uptoBulkEntries entries + 1
  | .held _ => 1
def uptoBulkAll {H : Type} : List (DataW H) → Nat
  | [] => 0
  | d :: r => uptoBulk d + uptoBulkAll r
def uptoBulkEntries {H : Type} : List (Lit × DataW H) → Nat
  | [] => 0
  | x :: r => uptoBulkEntry x + uptoBulkEntries r
def uptoBulkEntry {H : Type} : Lit × DataW H → Nat
  | (.string bytes, d) => bytes.length + uptoBulk d + 1
  | (_, d) => uptoBulk d + 1
 end
def uptoSmall : (H : Type) → List (DataW H) → Bool := fun _ ds => decide (uptoBulkAll ds ≤ 1048576)
def OpenSpec.upto (s : _root_.Go.ChangeSpec) : _root_.Go.OpenSpec := { _root_.Go.OpenSpec.ofChange s with cond := some uptoSmall }

/-- 'fiduciallaw03.IntervalBounds', WHERE WHAT IT READS IS OF BULK AT MOST 1048576: true; the input reads as it did. -/
def intervalBoundsUptoRow : OpenClaim := { program := "ytcdgmcfkhkikbaagreat", sum := "f1370cf5516d69327b7a0dc1614196025874823a1bd6330e687bc4e59a303b2f", func := "fiducial/fiduciallaw03.IntervalBounds", spec := "intervalBounds", unfollowed := true, recurses := true, apart := false, narrowed := true }
def IntervalBoundsUptoSaid : Prop := intervalBoundsUptoRow.holds Tryz.pinned (OpenSpec.upto intervalBoundsSpec)

/-- 'fiduciallaw03.IntervalForms', WHERE WHAT IT READS IS OF BULK AT MOST 1048576: true; the input reads as it did. -/
def intervalFormsUptoRow : OpenClaim := { program := "ytcdgmcfkhkikbaagreat", sum := "f1370cf5516d69327b7a0dc1614196025874823a1bd6330e687bc4e59a303b2f", func := "fiducial/fiduciallaw03.IntervalForms", spec := "intervalForms", unfollowed := true, recurses := true, apart := false, narrowed := true }
def IntervalFormsUptoSaid : Prop := intervalFormsUptoRow.holds Tryz.pinned (OpenSpec.upto intervalFormsSpec)

/-- 'fiduciallaw03.IntervalMonotone', WHERE WHAT IT READS IS OF BULK AT MOST 1048576: true; the input reads as it did. -/
def intervalMonotoneUptoRow : OpenClaim := { program := "ytcdgmcfkhkikbaagreat", sum := "f1370cf5516d69327b7a0dc1614196025874823a1bd6330e687bc4e59a303b2f", func := "fiducial/fiduciallaw03.IntervalMonotone", spec := "intervalMonotone", unfollowed := true, recurses := true, apart := false, narrowed := true }
def IntervalMonotoneUptoSaid : Prop := intervalMonotoneUptoRow.holds Tryz.pinned (OpenSpec.upto intervalMonotoneSpec)

/-- 'fiduciallaw03.IntervalEncloses', WHERE WHAT IT READS IS OF BULK AT MOST 1048576: true; the input reads as it did. -/
def intervalEnclosesUptoRow : OpenClaim := { program := "ytcdgmcfkhkikbaagreat", sum := "f1370cf5516d69327b7a0dc1614196025874823a1bd6330e687bc4e59a303b2f", func := "fiducial/fiduciallaw03.IntervalEncloses", spec := "intervalEncloses", unfollowed := true, recurses := true, apart := false, narrowed := true }
def IntervalEnclosesUptoSaid : Prop := intervalEnclosesUptoRow.holds Tryz.pinned (OpenSpec.upto intervalEnclosesSpec)

/-- 'fiduciallaw03.IntervalDots', WHERE WHAT IT READS IS OF BULK AT MOST 1048576: true; the input reads as it did. -/
def intervalDotsUptoRow : OpenClaim := { program := "ytcdgmcfkhkikbaagreat", sum := "f1370cf5516d69327b7a0dc1614196025874823a1bd6330e687bc4e59a303b2f", func := "fiducial/fiduciallaw03.IntervalDots", spec := "intervalDots", unfollowed := true, recurses := true, apart := false, narrowed := true }
def IntervalDotsUptoSaid : Prop := intervalDotsUptoRow.holds Tryz.pinned (OpenSpec.upto intervalDotsSpec)

/-- 'fiduciallaw03.IntervalImages', WHERE WHAT IT READS IS OF BULK AT MOST 1048576: true; the input reads as it did. -/
def intervalImagesUptoRow : OpenClaim := { program := "ytcdgmcfkhkikbaagreat", sum := "f1370cf5516d69327b7a0dc1614196025874823a1bd6330e687bc4e59a303b2f", func := "fiducial/fiduciallaw03.IntervalImages", spec := "intervalImages", unfollowed := true, recurses := true, apart := false, narrowed := true }
def IntervalImagesUptoSaid : Prop := intervalImagesUptoRow.holds Tryz.pinned (OpenSpec.upto intervalImagesSpec)

/-- 'fiduciallaw03.IntervalSizes', WHERE WHAT IT READS IS OF BULK AT MOST 1048576: true; the input reads as it did. -/
def intervalSizesUptoRow : OpenClaim := { program := "ytcdgmcfkhkikbaagreat", sum := "f1370cf5516d69327b7a0dc1614196025874823a1bd6330e687bc4e59a303b2f", func := "fiducial/fiduciallaw03.IntervalSizes", spec := "intervalSizes", unfollowed := true, recurses := true, apart := false, narrowed := true }
def IntervalSizesUptoSaid : Prop := intervalSizesUptoRow.holds Tryz.pinned (OpenSpec.upto intervalSizesSpec)

end Rows
end Go.Proofs.YtcdgmcfkhkikbaaGreat
