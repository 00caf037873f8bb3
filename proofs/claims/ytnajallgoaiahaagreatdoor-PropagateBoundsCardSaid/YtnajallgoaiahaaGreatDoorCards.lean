/-
  DERIVED. GIVEN WITH THE SEED: THE CARDS: each row of YtnajallgoaiahaaGreatDoorRows.lean that lists a variable, with what it lists TIED to the program's text (the seventh form; the later family's looks); each row that meets fmt, with fmt's text TOLD by the authors' own Lean function (tested against real Go, not proved from fmt's source: count such statements apart). THE CARD IS WHAT COUNTS. Prove the row's statement (the work); the ties are given (YtnajallgoaiahaaGreatDoorTie.lean); close each card by the builder's one call (the guide's Derived/Test/ToyasCard.lean, 'card_holds'). Laid BY PROGRAM, IN A SANDBOX (cutbox-door.mjs). By AI agents, Wed Nov 11 2026. No macro, syntax, notation, axiom, sorry.
-/
import Derived.Test.YtnajallgoaiahaaGreatDoorRows
import GoSem.ClaimSeven
namespace Go.Proofs.YtnajallgoaiahaaGreatDoor
namespace Rows

/-- THE TIED CARD OF 'fiduciallaw39.PropagateGradients'. -/
def propagateGradientsCard : Claim7 := { stood := { row := propagateGradientsRow, standIns := [], harness := (true, "de003654cfae3caa1481ad000d337601fd35236b95f0707223ec46fb23597483"), looks := false }, kinds := [], alts := [], laidByText := true, laidKinds := [.data, .data, .data], laidTests := true, laidLooks := .later }
def PropagateGradientsCardSaid : Prop := Claim7.holds Tryz.pinned (.plain (OpenSpec.ofChange propagateGradientsSpec)) propagateGradientsCard

/-- THE TIED CARD OF 'fiduciallaw39.PropagateVariances'. -/
def propagateVariancesCard : Claim7 := { stood := { row := propagateVariancesRow, standIns := [], harness := (true, "de003654cfae3caa1481ad000d337601fd35236b95f0707223ec46fb23597483"), looks := false }, kinds := [], alts := [], laidByText := true, laidKinds := [.data, .data, .data], laidTests := true, laidLooks := .later }
def PropagateVariancesCardSaid : Prop := Claim7.holds Tryz.pinned (.plain (OpenSpec.ofChange propagateVariancesSpec)) propagateVariancesCard

/-- THE TIED CARD OF 'fiduciallaw39.PropagateCovers'. -/
def propagateCoversCard : Claim7 := { stood := { row := propagateCoversRow, standIns := [], harness := (true, "de003654cfae3caa1481ad000d337601fd35236b95f0707223ec46fb23597483"), looks := false }, kinds := [], alts := [], laidByText := true, laidKinds := [.data, .data, .data], laidTests := true, laidLooks := .later }
def PropagateCoversCardSaid : Prop := Claim7.holds Tryz.pinned (.plain (OpenSpec.ofChange propagateCoversSpec)) propagateCoversCard

/-- THE TIED CARD OF 'fiduciallaw39.PropagateEllipses'. -/
def propagateEllipsesCard : Claim7 := { stood := { row := propagateEllipsesRow, standIns := [], harness := (true, "de003654cfae3caa1481ad000d337601fd35236b95f0707223ec46fb23597483"), looks := false }, kinds := [], alts := [], laidByText := true, laidKinds := [.data, .data, .data], laidTests := true, laidLooks := .later }
def PropagateEllipsesCardSaid : Prop := Claim7.holds Tryz.pinned (.plain (OpenSpec.ofChange propagateEllipsesSpec)) propagateEllipsesCard

/-- THE TIED CARD OF 'fiduciallaw39.PropagatePositive'. -/
def propagatePositiveCard : Claim7 := { stood := { row := propagatePositiveRow, standIns := [], harness := (true, "de003654cfae3caa1481ad000d337601fd35236b95f0707223ec46fb23597483"), looks := false }, kinds := [], alts := [], laidByText := true, laidKinds := [.data, .data, .data], laidTests := true, laidLooks := .later }
def PropagatePositiveCardSaid : Prop := Claim7.holds Tryz.pinned (.plain (OpenSpec.ofChange propagatePositiveSpec)) propagatePositiveCard

/-- THE TIED CARD OF 'fiduciallaw39.PropagateSums'. -/
def propagateSumsCard : Claim7 := { stood := { row := propagateSumsRow, standIns := [], harness := (true, "de003654cfae3caa1481ad000d337601fd35236b95f0707223ec46fb23597483"), looks := false }, kinds := [], alts := [], laidByText := true, laidKinds := [.data, .data, .data], laidTests := true, laidLooks := .later }
def PropagateSumsCardSaid : Prop := Claim7.holds Tryz.pinned (.plain (OpenSpec.ofChange propagateSumsSpec)) propagateSumsCard

/-- THE TIED CARD OF 'fiduciallaw39.PropagateBounds'. -/
def propagateBoundsCard : Claim7 := { stood := { row := propagateBoundsRow, standIns := [], harness := (true, "de003654cfae3caa1481ad000d337601fd35236b95f0707223ec46fb23597483"), looks := false }, kinds := [], alts := [], laidByText := true, laidKinds := [.data, .data, .data], laidTests := true, laidLooks := .later }
def PropagateBoundsCardSaid : Prop := Claim7.holds Tryz.pinned (.plain (OpenSpec.ofChange propagateBoundsSpec)) propagateBoundsCard

/-- THE TIED CARD OF 'fiduciallaw39.PropagateTerms'. -/
def propagateTermsCard : Claim7 := { stood := { row := propagateTermsRow, standIns := [], harness := (true, "de003654cfae3caa1481ad000d337601fd35236b95f0707223ec46fb23597483"), looks := false }, kinds := [], alts := [], laidByText := true, laidKinds := [.data, .data, .data], laidTests := true, laidLooks := .later }
def PropagateTermsCardSaid : Prop := Claim7.holds Tryz.pinned (.plain (OpenSpec.ofChange propagateTermsSpec)) propagateTermsCard

/-- THE SECOND FORM's CARD OF 'fiduciallaw39.PropagateGradients'. -/
def propagateGradientsUptoCard : Claim7 := { stood := { row := propagateGradientsUptoRow, standIns := [], harness := (true, "de003654cfae3caa1481ad000d337601fd35236b95f0707223ec46fb23597483"), looks := false }, kinds := [], alts := [], laidByText := true, laidKinds := [.data, .data, .data], laidTests := true, laidLooks := .later }
def PropagateGradientsUptoCardSaid : Prop := Claim7.holds Tryz.pinned (.plain (OpenSpec.upto propagateGradientsSpec)) propagateGradientsUptoCard

/-- THE SECOND FORM's CARD OF 'fiduciallaw39.PropagateVariances'. -/
def propagateVariancesUptoCard : Claim7 := { stood := { row := propagateVariancesUptoRow, standIns := [], harness := (true, "de003654cfae3caa1481ad000d337601fd35236b95f0707223ec46fb23597483"), looks := false }, kinds := [], alts := [], laidByText := true, laidKinds := [.data, .data, .data], laidTests := true, laidLooks := .later }
def PropagateVariancesUptoCardSaid : Prop := Claim7.holds Tryz.pinned (.plain (OpenSpec.upto propagateVariancesSpec)) propagateVariancesUptoCard

/-- THE SECOND FORM's CARD OF 'fiduciallaw39.PropagateCovers'. -/
def propagateCoversUptoCard : Claim7 := { stood := { row := propagateCoversUptoRow, standIns := [], harness := (true, "de003654cfae3caa1481ad000d337601fd35236b95f0707223ec46fb23597483"), looks := false }, kinds := [], alts := [], laidByText := true, laidKinds := [.data, .data, .data], laidTests := true, laidLooks := .later }
def PropagateCoversUptoCardSaid : Prop := Claim7.holds Tryz.pinned (.plain (OpenSpec.upto propagateCoversSpec)) propagateCoversUptoCard

/-- THE SECOND FORM's CARD OF 'fiduciallaw39.PropagateEllipses'. -/
def propagateEllipsesUptoCard : Claim7 := { stood := { row := propagateEllipsesUptoRow, standIns := [], harness := (true, "de003654cfae3caa1481ad000d337601fd35236b95f0707223ec46fb23597483"), looks := false }, kinds := [], alts := [], laidByText := true, laidKinds := [.data, .data, .data], laidTests := true, laidLooks := .later }
def PropagateEllipsesUptoCardSaid : Prop := Claim7.holds Tryz.pinned (.plain (OpenSpec.upto propagateEllipsesSpec)) propagateEllipsesUptoCard

/-- THE SECOND FORM's CARD OF 'fiduciallaw39.PropagatePositive'. -/
def propagatePositiveUptoCard : Claim7 := { stood := { row := propagatePositiveUptoRow, standIns := [], harness := (true, "de003654cfae3caa1481ad000d337601fd35236b95f0707223ec46fb23597483"), looks := false }, kinds := [], alts := [], laidByText := true, laidKinds := [.data, .data, .data], laidTests := true, laidLooks := .later }
def PropagatePositiveUptoCardSaid : Prop := Claim7.holds Tryz.pinned (.plain (OpenSpec.upto propagatePositiveSpec)) propagatePositiveUptoCard

/-- THE SECOND FORM's CARD OF 'fiduciallaw39.PropagateSums'. -/
def propagateSumsUptoCard : Claim7 := { stood := { row := propagateSumsUptoRow, standIns := [], harness := (true, "de003654cfae3caa1481ad000d337601fd35236b95f0707223ec46fb23597483"), looks := false }, kinds := [], alts := [], laidByText := true, laidKinds := [.data, .data, .data], laidTests := true, laidLooks := .later }
def PropagateSumsUptoCardSaid : Prop := Claim7.holds Tryz.pinned (.plain (OpenSpec.upto propagateSumsSpec)) propagateSumsUptoCard

/-- THE SECOND FORM's CARD OF 'fiduciallaw39.PropagateBounds'. -/
def propagateBoundsUptoCard : Claim7 := { stood := { row := propagateBoundsUptoRow, standIns := [], harness := (true, "de003654cfae3caa1481ad000d337601fd35236b95f0707223ec46fb23597483"), looks := false }, kinds := [], alts := [], laidByText := true, laidKinds := [.data, .data, .data], laidTests := true, laidLooks := .later }
def PropagateBoundsUptoCardSaid : Prop := Claim7.holds Tryz.pinned (.plain (OpenSpec.upto propagateBoundsSpec)) propagateBoundsUptoCard

/-- THE SECOND FORM's CARD OF 'fiduciallaw39.PropagateTerms'. -/
def propagateTermsUptoCard : Claim7 := { stood := { row := propagateTermsUptoRow, standIns := [], harness := (true, "de003654cfae3caa1481ad000d337601fd35236b95f0707223ec46fb23597483"), looks := false }, kinds := [], alts := [], laidByText := true, laidKinds := [.data, .data, .data], laidTests := true, laidLooks := .later }
def PropagateTermsUptoCardSaid : Prop := Claim7.holds Tryz.pinned (.plain (OpenSpec.upto propagateTermsSpec)) propagateTermsUptoCard
end Rows
end Go.Proofs.YtnajallgoaiahaaGreatDoor
