/-
  DERIVED. GIVEN WITH THE SEED: THE CARDS: each row of YtckccjhflbljgaaGreatDoorRows.lean that lists a variable, with what it lists TIED to the program's text (the seventh form; the later family's looks); each row that meets fmt, with fmt's text TOLD by the authors' own Lean function (tested against real Go, not proved from fmt's source: count such statements apart). THE CARD IS WHAT COUNTS. Prove the row's statement (the work); the ties are given (YtckccjhflbljgaaGreatDoorTie.lean); close each card by the builder's one call (the guide's Derived/Test/ToyasCard.lean, 'card_holds'). Laid BY PROGRAM, IN A SANDBOX (cutbox-door.mjs). By AI agents, Wed Nov 11 2026. No macro, syntax, notation, axiom, sorry.
-/
import Derived.Test.YtckccjhflbljgaaGreatDoorRows
import GoSem.ClaimSeven
namespace Go.Proofs.YtckccjhflbljgaaGreatDoor
namespace Rows

/-- THE TIED CARD OF 'fiduciallaw07.JetValues'. -/
def jetValuesCard : Claim7 := { stood := { row := jetValuesRow, standIns := [], harness := (true, "8a943098275a9e9b59cd3019c152170035276ea1179388a0ed1d334223600e06"), looks := false }, kinds := [], alts := [], laidByText := true, laidKinds := [.data, .data, .data, .sentinel], laidTests := true, laidLooks := .later }
def JetValuesCardSaid : Prop := Claim7.holds Tryz.pinned (.plain (OpenSpec.ofChange jetValuesSpec)) jetValuesCard

/-- THE TIED CARD OF 'fiduciallaw07.JetDerives'. -/
def jetDerivesCard : Claim7 := { stood := { row := jetDerivesRow, standIns := [], harness := (true, "8a943098275a9e9b59cd3019c152170035276ea1179388a0ed1d334223600e06"), looks := false }, kinds := [], alts := [], laidByText := true, laidKinds := [.data, .data, .data, .sentinel], laidTests := true, laidLooks := .later }
def JetDerivesCardSaid : Prop := Claim7.holds Tryz.pinned (.plain (OpenSpec.ofChange jetDerivesSpec)) jetDerivesCard

/-- THE TIED CARD OF 'fiduciallaw07.JetLeibniz'. -/
def jetLeibnizCard : Claim7 := { stood := { row := jetLeibnizRow, standIns := [], harness := (true, "8a943098275a9e9b59cd3019c152170035276ea1179388a0ed1d334223600e06"), looks := false }, kinds := [], alts := [], laidByText := true, laidKinds := [.data, .data, .data, .sentinel], laidTests := true, laidLooks := .later }
def JetLeibnizCardSaid : Prop := Claim7.holds Tryz.pinned (.plain (OpenSpec.ofChange jetLeibnizSpec)) jetLeibnizCard

/-- THE TIED CARD OF 'fiduciallaw07.JetMeans'. -/
def jetMeansCard : Claim7 := { stood := { row := jetMeansRow, standIns := [], harness := (true, "8a943098275a9e9b59cd3019c152170035276ea1179388a0ed1d334223600e06"), looks := false }, kinds := [], alts := [], laidByText := true, laidKinds := [.data, .data, .data, .sentinel], laidTests := true, laidLooks := .later }
def JetMeansCardSaid : Prop := Claim7.holds Tryz.pinned (.plain (OpenSpec.ofChange jetMeansSpec)) jetMeansCard

/-- THE TIED CARD OF 'fiduciallaw07.JetChecks'. -/
def jetChecksCard : Claim7 := { stood := { row := jetChecksRow, standIns := [], harness := (true, "8a943098275a9e9b59cd3019c152170035276ea1179388a0ed1d334223600e06"), looks := false }, kinds := [], alts := [], laidByText := true, laidKinds := [.data, .data, .data, .sentinel], laidTests := true, laidLooks := .later }
def JetChecksCardSaid : Prop := Claim7.holds Tryz.pinned (.plain (OpenSpec.ofChange jetChecksSpec)) jetChecksCard

/-- THE SECOND FORM's CARD OF 'fiduciallaw07.JetValues'. -/
def jetValuesUptoCard : Claim7 := { stood := { row := jetValuesUptoRow, standIns := [], harness := (true, "8a943098275a9e9b59cd3019c152170035276ea1179388a0ed1d334223600e06"), looks := false }, kinds := [], alts := [], laidByText := true, laidKinds := [.data, .data, .data, .sentinel], laidTests := true, laidLooks := .later }
def JetValuesUptoCardSaid : Prop := Claim7.holds Tryz.pinned (.plain (OpenSpec.upto jetValuesSpec)) jetValuesUptoCard

/-- THE SECOND FORM's CARD OF 'fiduciallaw07.JetDerives'. -/
def jetDerivesUptoCard : Claim7 := { stood := { row := jetDerivesUptoRow, standIns := [], harness := (true, "8a943098275a9e9b59cd3019c152170035276ea1179388a0ed1d334223600e06"), looks := false }, kinds := [], alts := [], laidByText := true, laidKinds := [.data, .data, .data, .sentinel], laidTests := true, laidLooks := .later }
def JetDerivesUptoCardSaid : Prop := Claim7.holds Tryz.pinned (.plain (OpenSpec.upto jetDerivesSpec)) jetDerivesUptoCard

/-- THE SECOND FORM's CARD OF 'fiduciallaw07.JetLeibniz'. -/
def jetLeibnizUptoCard : Claim7 := { stood := { row := jetLeibnizUptoRow, standIns := [], harness := (true, "8a943098275a9e9b59cd3019c152170035276ea1179388a0ed1d334223600e06"), looks := false }, kinds := [], alts := [], laidByText := true, laidKinds := [.data, .data, .data, .sentinel], laidTests := true, laidLooks := .later }
def JetLeibnizUptoCardSaid : Prop := Claim7.holds Tryz.pinned (.plain (OpenSpec.upto jetLeibnizSpec)) jetLeibnizUptoCard

/-- THE SECOND FORM's CARD OF 'fiduciallaw07.JetMeans'. -/
def jetMeansUptoCard : Claim7 := { stood := { row := jetMeansUptoRow, standIns := [], harness := (true, "8a943098275a9e9b59cd3019c152170035276ea1179388a0ed1d334223600e06"), looks := false }, kinds := [], alts := [], laidByText := true, laidKinds := [.data, .data, .data, .sentinel], laidTests := true, laidLooks := .later }
def JetMeansUptoCardSaid : Prop := Claim7.holds Tryz.pinned (.plain (OpenSpec.upto jetMeansSpec)) jetMeansUptoCard

/-- THE SECOND FORM's CARD OF 'fiduciallaw07.JetChecks'. -/
def jetChecksUptoCard : Claim7 := { stood := { row := jetChecksUptoRow, standIns := [], harness := (true, "8a943098275a9e9b59cd3019c152170035276ea1179388a0ed1d334223600e06"), looks := false }, kinds := [], alts := [], laidByText := true, laidKinds := [.data, .data, .data, .sentinel], laidTests := true, laidLooks := .later }
def JetChecksUptoCardSaid : Prop := Claim7.holds Tryz.pinned (.plain (OpenSpec.upto jetChecksSpec)) jetChecksUptoCard
end Rows
end Go.Proofs.YtckccjhflbljgaaGreatDoor
