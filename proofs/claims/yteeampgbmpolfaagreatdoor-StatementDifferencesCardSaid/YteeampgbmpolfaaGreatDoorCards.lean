/-
  DERIVED. GIVEN WITH THE SEED: THE CARDS: each row of YteeampgbmpolfaaGreatDoorRows.lean that lists a variable, with what it lists TIED to the program's text (the seventh form; the later family's looks); each row that meets fmt, with fmt's text TOLD by the authors' own Lean function (tested against real Go, not proved from fmt's source: count such statements apart). THE CARD IS WHAT COUNTS. Prove the row's statement (the work); the ties are given (YteeampgbmpolfaaGreatDoorTie.lean); close each card by the builder's one call (the guide's Derived/Test/ToyasCard.lean, 'card_holds'). Laid BY PROGRAM, IN A SANDBOX (cutbox-door.mjs). By AI agents, Wed Nov 11 2026. No macro, syntax, notation, axiom, sorry.
-/
import Derived.Test.YteeampgbmpolfaaGreatDoorRows
import GoSem.ClaimSeven
namespace Go.Proofs.YteeampgbmpolfaaGreatDoor
namespace Rows

/-- THE TIED CARD OF 'tranchelaw54.StatementTexts'. -/
def statementTextsCard : Claim7 := { stood := { row := statementTextsRow, standIns := [], harness := (true, "b83cb1ba56d255f05145e51e88182c2a5ac5abb5eb254e60f6825f769abbae17"), looks := true }, kinds := [], alts := [], laidByText := true, laidKinds := [.data, .data, .data, .data, .pinned], laidTests := true, laidLooks := .later }
def StatementTextsCardSaid : Prop := Claim7.holds Tryz.pinned (.plain (OpenSpec.ofChange statementTextsSpec)) statementTextsCard

/-- THE TIED CARD OF 'tranchelaw54.StatementRoundTrip'. -/
def statementRoundTripCard : Claim7 := { stood := { row := statementRoundTripRow, standIns := [], harness := (true, "b83cb1ba56d255f05145e51e88182c2a5ac5abb5eb254e60f6825f769abbae17"), looks := true }, kinds := [], alts := [], laidByText := true, laidKinds := [.data, .data, .data, .data, .pinned], laidTests := true, laidLooks := .later }
def StatementRoundTripCardSaid : Prop := Claim7.holds Tryz.pinned (.plain (OpenSpec.ofChange statementRoundTripSpec)) statementRoundTripCard

/-- THE TIED CARD OF 'tranchelaw54.StatementLines'. -/
def statementLinesCard : Claim7 := { stood := { row := statementLinesRow, standIns := [], harness := (true, "b83cb1ba56d255f05145e51e88182c2a5ac5abb5eb254e60f6825f769abbae17"), looks := true }, kinds := [], alts := [], laidByText := true, laidKinds := [.data, .data, .data, .data, .pinned], laidTests := true, laidLooks := .later }
def StatementLinesCardSaid : Prop := Claim7.holds Tryz.pinned (.plain (OpenSpec.ofChange statementLinesSpec)) statementLinesCard

/-- THE TIED CARD OF 'tranchelaw54.StatementParts'. -/
def statementPartsCard : Claim7 := { stood := { row := statementPartsRow, standIns := [], harness := (true, "b83cb1ba56d255f05145e51e88182c2a5ac5abb5eb254e60f6825f769abbae17"), looks := true }, kinds := [], alts := [], laidByText := true, laidKinds := [.data, .data, .data, .data, .pinned], laidTests := true, laidLooks := .later }
def StatementPartsCardSaid : Prop := Claim7.holds Tryz.pinned (.plain (OpenSpec.ofChange statementPartsSpec)) statementPartsCard

/-- THE TIED CARD OF 'tranchelaw54.StatementChecks'. -/
def statementChecksCard : Claim7 := { stood := { row := statementChecksRow, standIns := [], harness := (true, "b83cb1ba56d255f05145e51e88182c2a5ac5abb5eb254e60f6825f769abbae17"), looks := true }, kinds := [], alts := [], laidByText := true, laidKinds := [.data, .data, .data, .data, .sentinel, .sentinel, .pinned], laidTests := true, laidLooks := .later }
def StatementChecksCardSaid : Prop := Claim7.holds Tryz.pinned (.plain (OpenSpec.ofChange statementChecksSpec)) statementChecksCard

/-- THE TIED CARD OF 'tranchelaw54.StatementDifferences'. -/
def statementDifferencesCard : Claim7 := { stood := { row := statementDifferencesRow, standIns := [], harness := (true, "b83cb1ba56d255f05145e51e88182c2a5ac5abb5eb254e60f6825f769abbae17"), looks := true }, kinds := [], alts := [], laidByText := true, laidKinds := [.data, .data, .data, .data, .sentinel, .sentinel, .pinned], laidTests := true, laidLooks := .later }
def StatementDifferencesCardSaid : Prop := Claim7.holds Tryz.pinned (.plain (OpenSpec.ofChange statementDifferencesSpec)) statementDifferencesCard

/-- THE SECOND FORM's CARD OF 'tranchelaw54.StatementTexts'. -/
def statementTextsUptoCard : Claim7 := { stood := { row := statementTextsUptoRow, standIns := [], harness := (true, "b83cb1ba56d255f05145e51e88182c2a5ac5abb5eb254e60f6825f769abbae17"), looks := true }, kinds := [], alts := [], laidByText := true, laidKinds := [.data, .data, .data, .data, .pinned], laidTests := true, laidLooks := .later }
def StatementTextsUptoCardSaid : Prop := Claim7.holds Tryz.pinned (.plain (OpenSpec.upto statementTextsSpec)) statementTextsUptoCard

/-- THE SECOND FORM's CARD OF 'tranchelaw54.StatementRoundTrip'. -/
def statementRoundTripUptoCard : Claim7 := { stood := { row := statementRoundTripUptoRow, standIns := [], harness := (true, "b83cb1ba56d255f05145e51e88182c2a5ac5abb5eb254e60f6825f769abbae17"), looks := true }, kinds := [], alts := [], laidByText := true, laidKinds := [.data, .data, .data, .data, .pinned], laidTests := true, laidLooks := .later }
def StatementRoundTripUptoCardSaid : Prop := Claim7.holds Tryz.pinned (.plain (OpenSpec.upto statementRoundTripSpec)) statementRoundTripUptoCard

/-- THE SECOND FORM's CARD OF 'tranchelaw54.StatementLines'. -/
def statementLinesUptoCard : Claim7 := { stood := { row := statementLinesUptoRow, standIns := [], harness := (true, "b83cb1ba56d255f05145e51e88182c2a5ac5abb5eb254e60f6825f769abbae17"), looks := true }, kinds := [], alts := [], laidByText := true, laidKinds := [.data, .data, .data, .data, .pinned], laidTests := true, laidLooks := .later }
def StatementLinesUptoCardSaid : Prop := Claim7.holds Tryz.pinned (.plain (OpenSpec.upto statementLinesSpec)) statementLinesUptoCard

/-- THE SECOND FORM's CARD OF 'tranchelaw54.StatementParts'. -/
def statementPartsUptoCard : Claim7 := { stood := { row := statementPartsUptoRow, standIns := [], harness := (true, "b83cb1ba56d255f05145e51e88182c2a5ac5abb5eb254e60f6825f769abbae17"), looks := true }, kinds := [], alts := [], laidByText := true, laidKinds := [.data, .data, .data, .data, .pinned], laidTests := true, laidLooks := .later }
def StatementPartsUptoCardSaid : Prop := Claim7.holds Tryz.pinned (.plain (OpenSpec.upto statementPartsSpec)) statementPartsUptoCard

/-- THE SECOND FORM's CARD OF 'tranchelaw54.StatementChecks'. -/
def statementChecksUptoCard : Claim7 := { stood := { row := statementChecksUptoRow, standIns := [], harness := (true, "b83cb1ba56d255f05145e51e88182c2a5ac5abb5eb254e60f6825f769abbae17"), looks := true }, kinds := [], alts := [], laidByText := true, laidKinds := [.data, .data, .data, .data, .sentinel, .sentinel, .pinned], laidTests := true, laidLooks := .later }
def StatementChecksUptoCardSaid : Prop := Claim7.holds Tryz.pinned (.plain (OpenSpec.upto statementChecksSpec)) statementChecksUptoCard

/-- THE SECOND FORM's CARD OF 'tranchelaw54.StatementDifferences'. -/
def statementDifferencesUptoCard : Claim7 := { stood := { row := statementDifferencesUptoRow, standIns := [], harness := (true, "b83cb1ba56d255f05145e51e88182c2a5ac5abb5eb254e60f6825f769abbae17"), looks := true }, kinds := [], alts := [], laidByText := true, laidKinds := [.data, .data, .data, .data, .sentinel, .sentinel, .pinned], laidTests := true, laidLooks := .later }
def StatementDifferencesUptoCardSaid : Prop := Claim7.holds Tryz.pinned (.plain (OpenSpec.upto statementDifferencesSpec)) statementDifferencesUptoCard
end Rows
end Go.Proofs.YteeampgbmpolfaaGreatDoor
