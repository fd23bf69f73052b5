/-
  DERIVED. GIVEN WITH THE SEED: THE CARDS: each row of YtaegjkllenlfpaaGreatDoorRows.lean that lists a variable, with what it lists TIED to the program's text (the seventh form; the later family's looks); each row that meets fmt, with fmt's text TOLD by the authors' own Lean function (tested against real Go, not proved from fmt's source: count such statements apart). THE CARD IS WHAT COUNTS. Prove the row's statement (the work); the ties are given (YtaegjkllenlfpaaGreatDoorTie.lean); close each card by the builder's one call (the guide's Derived/Test/ToyasCard.lean, 'card_holds'). Laid BY PROGRAM, IN A SANDBOX (cutbox-door.mjs). By AI agents, Wed Nov 11 2026. No macro, syntax, notation, axiom, sorry.
-/
import Derived.Test.YtaegjkllenlfpaaGreatDoorRows
import GoSem.ClaimSeven
namespace Go.Proofs.YtaegjkllenlfpaaGreatDoor
namespace Rows

/-- THE TIED CARD OF 'tranchelaw21.DisposalKeeps'. -/
def disposalKeepsCard : Claim7 := { stood := { row := disposalKeepsRow, standIns := [], harness := (true, "9814af84b8e794ca4b0163332cdee43bee43e2780a8d1ca3ed63e0d68ff2b4f1"), looks := true }, kinds := [], alts := [], laidByText := true, laidKinds := [.data, .data, .data, .data, .sentinel, .sentinel, .pinned], laidTests := true, laidLooks := .later }
def DisposalKeepsCardSaid : Prop := Claim7.holds Tryz.pinned (.plain (OpenSpec.ofChange disposalKeepsSpec)) disposalKeepsCard

/-- THE TIED CARD OF 'tranchelaw21.DisposalMethods'. -/
def disposalMethodsCard : Claim7 := { stood := { row := disposalMethodsRow, standIns := [], harness := (true, "9814af84b8e794ca4b0163332cdee43bee43e2780a8d1ca3ed63e0d68ff2b4f1"), looks := true }, kinds := [], alts := [], laidByText := true, laidKinds := [.data, .data, .data, .data, .sentinel, .sentinel, .pinned], laidTests := true, laidLooks := .later }
def DisposalMethodsCardSaid : Prop := Claim7.holds Tryz.pinned (.plain (OpenSpec.ofChange disposalMethodsSpec)) disposalMethodsCard

/-- THE TIED CARD OF 'tranchelaw21.DisposalSells'. -/
def disposalSellsCard : Claim7 := { stood := { row := disposalSellsRow, standIns := [], harness := (true, "9814af84b8e794ca4b0163332cdee43bee43e2780a8d1ca3ed63e0d68ff2b4f1"), looks := true }, kinds := [], alts := [], laidByText := true, laidKinds := [.data, .data, .data, .data, .sentinel, .sentinel, .pinned], laidTests := true, laidLooks := .later }
def DisposalSellsCardSaid : Prop := Claim7.holds Tryz.pinned (.plain (OpenSpec.ofChange disposalSellsSpec)) disposalSellsCard

/-- THE TIED CARD OF 'tranchelaw21.DisposalCalls'. -/
def disposalCallsCard : Claim7 := { stood := { row := disposalCallsRow, standIns := [], harness := (true, "9814af84b8e794ca4b0163332cdee43bee43e2780a8d1ca3ed63e0d68ff2b4f1"), looks := true }, kinds := [], alts := [], laidByText := true, laidKinds := [.data, .data, .data, .data, .sentinel, .sentinel, .pinned], laidTests := true, laidLooks := .later }
def DisposalCallsCardSaid : Prop := Claim7.holds Tryz.pinned (.plain (OpenSpec.ofChange disposalCallsSpec)) disposalCallsCard

/-- THE TIED CARD OF 'tranchelaw21.DisposalGains'. -/
def disposalGainsCard : Claim7 := { stood := { row := disposalGainsRow, standIns := [], harness := (true, "9814af84b8e794ca4b0163332cdee43bee43e2780a8d1ca3ed63e0d68ff2b4f1"), looks := true }, kinds := [], alts := [], laidByText := true, laidKinds := [.data, .data, .data, .data, .sentinel, .sentinel, .pinned], laidTests := true, laidLooks := .later }
def DisposalGainsCardSaid : Prop := Claim7.holds Tryz.pinned (.plain (OpenSpec.ofChange disposalGainsSpec)) disposalGainsCard

/-- THE TIED CARD OF 'tranchelaw21.DisposalSums'. -/
def disposalSumsCard : Claim7 := { stood := { row := disposalSumsRow, standIns := [], harness := (true, "9814af84b8e794ca4b0163332cdee43bee43e2780a8d1ca3ed63e0d68ff2b4f1"), looks := true }, kinds := [], alts := [], laidByText := true, laidKinds := [.data, .data, .data, .data, .sentinel, .sentinel, .pinned], laidTests := true, laidLooks := .later }
def DisposalSumsCardSaid : Prop := Claim7.holds Tryz.pinned (.plain (OpenSpec.ofChange disposalSumsSpec)) disposalSumsCard

/-- THE TIED CARD OF 'tranchelaw21.DisposalParts'. -/
def disposalPartsCard : Claim7 := { stood := { row := disposalPartsRow, standIns := [], harness := (true, "9814af84b8e794ca4b0163332cdee43bee43e2780a8d1ca3ed63e0d68ff2b4f1"), looks := true }, kinds := [], alts := [], laidByText := true, laidKinds := [.data, .data, .data, .data, .sentinel, .sentinel, .pinned], laidTests := true, laidLooks := .later }
def DisposalPartsCardSaid : Prop := Claim7.holds Tryz.pinned (.plain (OpenSpec.ofChange disposalPartsSpec)) disposalPartsCard

/-- THE SECOND FORM's CARD OF 'tranchelaw21.DisposalKeeps'. -/
def disposalKeepsUptoCard : Claim7 := { stood := { row := disposalKeepsUptoRow, standIns := [], harness := (true, "9814af84b8e794ca4b0163332cdee43bee43e2780a8d1ca3ed63e0d68ff2b4f1"), looks := true }, kinds := [], alts := [], laidByText := true, laidKinds := [.data, .data, .data, .data, .sentinel, .sentinel, .pinned], laidTests := true, laidLooks := .later }
def DisposalKeepsUptoCardSaid : Prop := Claim7.holds Tryz.pinned (.plain (OpenSpec.upto disposalKeepsSpec)) disposalKeepsUptoCard

/-- THE SECOND FORM's CARD OF 'tranchelaw21.DisposalMethods'. -/
def disposalMethodsUptoCard : Claim7 := { stood := { row := disposalMethodsUptoRow, standIns := [], harness := (true, "9814af84b8e794ca4b0163332cdee43bee43e2780a8d1ca3ed63e0d68ff2b4f1"), looks := true }, kinds := [], alts := [], laidByText := true, laidKinds := [.data, .data, .data, .data, .sentinel, .sentinel, .pinned], laidTests := true, laidLooks := .later }
def DisposalMethodsUptoCardSaid : Prop := Claim7.holds Tryz.pinned (.plain (OpenSpec.upto disposalMethodsSpec)) disposalMethodsUptoCard

/-- THE SECOND FORM's CARD OF 'tranchelaw21.DisposalSells'. -/
def disposalSellsUptoCard : Claim7 := { stood := { row := disposalSellsUptoRow, standIns := [], harness := (true, "9814af84b8e794ca4b0163332cdee43bee43e2780a8d1ca3ed63e0d68ff2b4f1"), looks := true }, kinds := [], alts := [], laidByText := true, laidKinds := [.data, .data, .data, .data, .sentinel, .sentinel, .pinned], laidTests := true, laidLooks := .later }
def DisposalSellsUptoCardSaid : Prop := Claim7.holds Tryz.pinned (.plain (OpenSpec.upto disposalSellsSpec)) disposalSellsUptoCard

/-- THE SECOND FORM's CARD OF 'tranchelaw21.DisposalCalls'. -/
def disposalCallsUptoCard : Claim7 := { stood := { row := disposalCallsUptoRow, standIns := [], harness := (true, "9814af84b8e794ca4b0163332cdee43bee43e2780a8d1ca3ed63e0d68ff2b4f1"), looks := true }, kinds := [], alts := [], laidByText := true, laidKinds := [.data, .data, .data, .data, .sentinel, .sentinel, .pinned], laidTests := true, laidLooks := .later }
def DisposalCallsUptoCardSaid : Prop := Claim7.holds Tryz.pinned (.plain (OpenSpec.upto disposalCallsSpec)) disposalCallsUptoCard

/-- THE SECOND FORM's CARD OF 'tranchelaw21.DisposalGains'. -/
def disposalGainsUptoCard : Claim7 := { stood := { row := disposalGainsUptoRow, standIns := [], harness := (true, "9814af84b8e794ca4b0163332cdee43bee43e2780a8d1ca3ed63e0d68ff2b4f1"), looks := true }, kinds := [], alts := [], laidByText := true, laidKinds := [.data, .data, .data, .data, .sentinel, .sentinel, .pinned], laidTests := true, laidLooks := .later }
def DisposalGainsUptoCardSaid : Prop := Claim7.holds Tryz.pinned (.plain (OpenSpec.upto disposalGainsSpec)) disposalGainsUptoCard

/-- THE SECOND FORM's CARD OF 'tranchelaw21.DisposalSums'. -/
def disposalSumsUptoCard : Claim7 := { stood := { row := disposalSumsUptoRow, standIns := [], harness := (true, "9814af84b8e794ca4b0163332cdee43bee43e2780a8d1ca3ed63e0d68ff2b4f1"), looks := true }, kinds := [], alts := [], laidByText := true, laidKinds := [.data, .data, .data, .data, .sentinel, .sentinel, .pinned], laidTests := true, laidLooks := .later }
def DisposalSumsUptoCardSaid : Prop := Claim7.holds Tryz.pinned (.plain (OpenSpec.upto disposalSumsSpec)) disposalSumsUptoCard

/-- THE SECOND FORM's CARD OF 'tranchelaw21.DisposalParts'. -/
def disposalPartsUptoCard : Claim7 := { stood := { row := disposalPartsUptoRow, standIns := [], harness := (true, "9814af84b8e794ca4b0163332cdee43bee43e2780a8d1ca3ed63e0d68ff2b4f1"), looks := true }, kinds := [], alts := [], laidByText := true, laidKinds := [.data, .data, .data, .data, .sentinel, .sentinel, .pinned], laidTests := true, laidLooks := .later }
def DisposalPartsUptoCardSaid : Prop := Claim7.holds Tryz.pinned (.plain (OpenSpec.upto disposalPartsSpec)) disposalPartsUptoCard
end Rows
end Go.Proofs.YtaegjkllenlfpaaGreatDoor
