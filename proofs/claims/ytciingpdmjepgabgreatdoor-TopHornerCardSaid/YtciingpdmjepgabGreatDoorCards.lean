/-
  DERIVED. GIVEN WITH THE SEED: THE CARDS: each row of YtciingpdmjepgabGreatDoorRows.lean that lists a variable, with what it lists TIED to the program's text (the seventh form; the later family's looks); each row that meets fmt, with fmt's text TOLD by the authors' own Lean function (tested against real Go, not proved from fmt's source: count such statements apart). THE CARD IS WHAT COUNTS. Prove the row's statement (the work); the ties are given (YtciingpdmjepgabGreatDoorTie.lean); close each card by the builder's one call (the guide's Derived/Test/ToyasCard.lean, 'card_holds'). Laid BY PROGRAM, IN A SANDBOX (cutbox-door.mjs). By AI agents, Wed Nov 11 2026. No macro, syntax, notation, axiom, sorry.
-/
import Derived.Test.YtciingpdmjepgabGreatDoorRows
import GoSem.ClaimSeven
namespace Go.Proofs.YtciingpdmjepgabGreatDoor
namespace Rows

/-- THE TIED CARD OF 'fiducialtop.TopHorner'. -/
def topHornerCard : Claim7 := { stood := { row := topHornerRow, standIns := [], harness := (true, "3899b6151672db9c16f19cf2269a62a32b40280848e83bce1c94aea8e833acc7"), looks := false }, kinds := [], alts := [], laidByText := true, laidKinds := [.data, .data, .data], laidTests := true, laidLooks := .later }
def TopHornerCardSaid : Prop := Claim7.holds Tryz.pinned (.plain (OpenSpec.ofChange topHornerSpec)) topHornerCard

/-- THE SECOND FORM's CARD OF 'fiducialtop.TopHorner'. -/
def topHornerUptoCard : Claim7 := { stood := { row := topHornerUptoRow, standIns := [], harness := (true, "3899b6151672db9c16f19cf2269a62a32b40280848e83bce1c94aea8e833acc7"), looks := false }, kinds := [], alts := [], laidByText := true, laidKinds := [.data, .data, .data], laidTests := true, laidLooks := .later }
def TopHornerUptoCardSaid : Prop := Claim7.holds Tryz.pinned (.plain (OpenSpec.upto topHornerSpec)) topHornerUptoCard
end Rows
end Go.Proofs.YtciingpdmjepgabGreatDoor
