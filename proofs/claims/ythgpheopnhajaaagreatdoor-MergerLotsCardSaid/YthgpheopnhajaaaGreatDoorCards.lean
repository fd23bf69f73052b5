/-
  DERIVED. GIVEN WITH THE SEED: THE CARDS: each row of YthgpheopnhajaaaGreatDoorRows.lean that lists a variable, with what it lists TIED to the program's text (the seventh form; the later family's looks); each row that meets fmt, with fmt's text TOLD by the authors' own Lean function (tested against real Go, not proved from fmt's source: count such statements apart). THE CARD IS WHAT COUNTS. Prove the row's statement (the work); the ties are given (YthgpheopnhajaaaGreatDoorTie.lean); close each card by the builder's one call (the guide's Derived/Test/ToyasCard.lean, 'card_holds'). Laid BY PROGRAM, IN A SANDBOX (cutbox-door.mjs). By AI agents, Wed Nov 11 2026. No macro, syntax, notation, axiom, sorry.
-/
import Derived.Test.YthgpheopnhajaaaGreatDoorRows
import GoSem.ClaimSeven
namespace Go.Proofs.YthgpheopnhajaaaGreatDoor
namespace Rows

/-- THE TIED CARD OF 'tranchelaw29.MergerApplies'. -/
def mergerAppliesCard : Claim7 := { stood := { row := mergerAppliesRow, standIns := [], harness := (true, "dccae9716bb0541915c94d4c4511bd8da1e8d6776f218efd9a93790acd9bb803"), looks := true }, kinds := [], alts := [], laidByText := true, laidKinds := [.data, .data, .data, .data, .sentinel, .sentinel, .pinned], laidTests := true, laidLooks := .later }
def MergerAppliesCardSaid : Prop := Claim7.holds Tryz.pinned (.plain (OpenSpec.ofChange mergerAppliesSpec)) mergerAppliesCard

/-- THE TIED CARD OF 'tranchelaw29.MergerRecognizes'. -/
def mergerRecognizesCard : Claim7 := { stood := { row := mergerRecognizesRow, standIns := [], harness := (true, "dccae9716bb0541915c94d4c4511bd8da1e8d6776f218efd9a93790acd9bb803"), looks := true }, kinds := [], alts := [], laidByText := true, laidKinds := [.data, .data, .data, .data, .sentinel, .sentinel, .pinned], laidTests := true, laidLooks := .later }
def MergerRecognizesCardSaid : Prop := Claim7.holds Tryz.pinned (.plain (OpenSpec.ofChange mergerRecognizesSpec)) mergerRecognizesCard

/-- THE TIED CARD OF 'tranchelaw29.MergerKeeps'. -/
def mergerKeepsCard : Claim7 := { stood := { row := mergerKeepsRow, standIns := [], harness := (true, "dccae9716bb0541915c94d4c4511bd8da1e8d6776f218efd9a93790acd9bb803"), looks := true }, kinds := [], alts := [], laidByText := true, laidKinds := [.data, .data, .data, .data, .sentinel, .sentinel, .pinned], laidTests := true, laidLooks := .later }
def MergerKeepsCardSaid : Prop := Claim7.holds Tryz.pinned (.plain (OpenSpec.ofChange mergerKeepsSpec)) mergerKeepsCard

/-- THE TIED CARD OF 'tranchelaw29.MergerGains'. -/
def mergerGainsCard : Claim7 := { stood := { row := mergerGainsRow, standIns := [], harness := (true, "dccae9716bb0541915c94d4c4511bd8da1e8d6776f218efd9a93790acd9bb803"), looks := true }, kinds := [], alts := [], laidByText := true, laidKinds := [.data, .data, .data, .data, .sentinel, .sentinel, .pinned], laidTests := true, laidLooks := .later }
def MergerGainsCardSaid : Prop := Claim7.holds Tryz.pinned (.plain (OpenSpec.ofChange mergerGainsSpec)) mergerGainsCard

/-- THE TIED CARD OF 'tranchelaw29.MergerLots'. -/
def mergerLotsCard : Claim7 := { stood := { row := mergerLotsRow, standIns := [], harness := (true, "dccae9716bb0541915c94d4c4511bd8da1e8d6776f218efd9a93790acd9bb803"), looks := true }, kinds := [], alts := [], laidByText := true, laidKinds := [.data, .data, .data, .data, .sentinel, .sentinel, .pinned], laidTests := true, laidLooks := .later }
def MergerLotsCardSaid : Prop := Claim7.holds Tryz.pinned (.plain (OpenSpec.ofChange mergerLotsSpec)) mergerLotsCard

/-- THE TIED CARD OF 'tranchelaw29.MergerAbsent'. -/
def mergerAbsentCard : Claim7 := { stood := { row := mergerAbsentRow, standIns := [], harness := (true, "dccae9716bb0541915c94d4c4511bd8da1e8d6776f218efd9a93790acd9bb803"), looks := true }, kinds := [], alts := [], laidByText := true, laidKinds := [.data, .data, .data, .data, .sentinel, .sentinel, .pinned], laidTests := true, laidLooks := .later }
def MergerAbsentCardSaid : Prop := Claim7.holds Tryz.pinned (.plain (OpenSpec.ofChange mergerAbsentSpec)) mergerAbsentCard

/-- THE TIED CARD OF 'tranchelaw29.MergerTerms'. -/
def mergerTermsCard : Claim7 := { stood := { row := mergerTermsRow, standIns := [], harness := (true, "dccae9716bb0541915c94d4c4511bd8da1e8d6776f218efd9a93790acd9bb803"), looks := true }, kinds := [], alts := [], laidByText := true, laidKinds := [.data, .data, .data, .data, .sentinel, .sentinel, .pinned], laidTests := true, laidLooks := .later }
def MergerTermsCardSaid : Prop := Claim7.holds Tryz.pinned (.plain (OpenSpec.ofChange mergerTermsSpec)) mergerTermsCard

/-- THE TIED CARD OF 'tranchelaw29.MergerOptions'. -/
def mergerOptionsCard : Claim7 := { stood := { row := mergerOptionsRow, standIns := [], harness := (true, "dccae9716bb0541915c94d4c4511bd8da1e8d6776f218efd9a93790acd9bb803"), looks := true }, kinds := [], alts := [], laidByText := true, laidKinds := [.data, .data, .data, .data, .sentinel, .sentinel, .pinned], laidTests := true, laidLooks := .later }
def MergerOptionsCardSaid : Prop := Claim7.holds Tryz.pinned (.plain (OpenSpec.ofChange mergerOptionsSpec)) mergerOptionsCard

/-- THE TIED CARD OF 'tranchelaw29.MergerBest'. -/
def mergerBestCard : Claim7 := { stood := { row := mergerBestRow, standIns := [], harness := (true, "dccae9716bb0541915c94d4c4511bd8da1e8d6776f218efd9a93790acd9bb803"), looks := true }, kinds := [], alts := [], laidByText := true, laidKinds := [.data, .data, .data, .data, .sentinel, .sentinel, .pinned], laidTests := true, laidLooks := .later }
def MergerBestCardSaid : Prop := Claim7.holds Tryz.pinned (.plain (OpenSpec.ofChange mergerBestSpec)) mergerBestCard

/-- THE SECOND FORM's CARD OF 'tranchelaw29.MergerApplies'. -/
def mergerAppliesUptoCard : Claim7 := { stood := { row := mergerAppliesUptoRow, standIns := [], harness := (true, "dccae9716bb0541915c94d4c4511bd8da1e8d6776f218efd9a93790acd9bb803"), looks := true }, kinds := [], alts := [], laidByText := true, laidKinds := [.data, .data, .data, .data, .sentinel, .sentinel, .pinned], laidTests := true, laidLooks := .later }
def MergerAppliesUptoCardSaid : Prop := Claim7.holds Tryz.pinned (.plain (OpenSpec.upto mergerAppliesSpec)) mergerAppliesUptoCard

/-- THE SECOND FORM's CARD OF 'tranchelaw29.MergerRecognizes'. -/
def mergerRecognizesUptoCard : Claim7 := { stood := { row := mergerRecognizesUptoRow, standIns := [], harness := (true, "dccae9716bb0541915c94d4c4511bd8da1e8d6776f218efd9a93790acd9bb803"), looks := true }, kinds := [], alts := [], laidByText := true, laidKinds := [.data, .data, .data, .data, .sentinel, .sentinel, .pinned], laidTests := true, laidLooks := .later }
def MergerRecognizesUptoCardSaid : Prop := Claim7.holds Tryz.pinned (.plain (OpenSpec.upto mergerRecognizesSpec)) mergerRecognizesUptoCard

/-- THE SECOND FORM's CARD OF 'tranchelaw29.MergerKeeps'. -/
def mergerKeepsUptoCard : Claim7 := { stood := { row := mergerKeepsUptoRow, standIns := [], harness := (true, "dccae9716bb0541915c94d4c4511bd8da1e8d6776f218efd9a93790acd9bb803"), looks := true }, kinds := [], alts := [], laidByText := true, laidKinds := [.data, .data, .data, .data, .sentinel, .sentinel, .pinned], laidTests := true, laidLooks := .later }
def MergerKeepsUptoCardSaid : Prop := Claim7.holds Tryz.pinned (.plain (OpenSpec.upto mergerKeepsSpec)) mergerKeepsUptoCard

/-- THE SECOND FORM's CARD OF 'tranchelaw29.MergerGains'. -/
def mergerGainsUptoCard : Claim7 := { stood := { row := mergerGainsUptoRow, standIns := [], harness := (true, "dccae9716bb0541915c94d4c4511bd8da1e8d6776f218efd9a93790acd9bb803"), looks := true }, kinds := [], alts := [], laidByText := true, laidKinds := [.data, .data, .data, .data, .sentinel, .sentinel, .pinned], laidTests := true, laidLooks := .later }
def MergerGainsUptoCardSaid : Prop := Claim7.holds Tryz.pinned (.plain (OpenSpec.upto mergerGainsSpec)) mergerGainsUptoCard

/-- THE SECOND FORM's CARD OF 'tranchelaw29.MergerLots'. -/
def mergerLotsUptoCard : Claim7 := { stood := { row := mergerLotsUptoRow, standIns := [], harness := (true, "dccae9716bb0541915c94d4c4511bd8da1e8d6776f218efd9a93790acd9bb803"), looks := true }, kinds := [], alts := [], laidByText := true, laidKinds := [.data, .data, .data, .data, .sentinel, .sentinel, .pinned], laidTests := true, laidLooks := .later }
def MergerLotsUptoCardSaid : Prop := Claim7.holds Tryz.pinned (.plain (OpenSpec.upto mergerLotsSpec)) mergerLotsUptoCard

/-- THE SECOND FORM's CARD OF 'tranchelaw29.MergerAbsent'. -/
def mergerAbsentUptoCard : Claim7 := { stood := { row := mergerAbsentUptoRow, standIns := [], harness := (true, "dccae9716bb0541915c94d4c4511bd8da1e8d6776f218efd9a93790acd9bb803"), looks := true }, kinds := [], alts := [], laidByText := true, laidKinds := [.data, .data, .data, .data, .sentinel, .sentinel, .pinned], laidTests := true, laidLooks := .later }
def MergerAbsentUptoCardSaid : Prop := Claim7.holds Tryz.pinned (.plain (OpenSpec.upto mergerAbsentSpec)) mergerAbsentUptoCard

/-- THE SECOND FORM's CARD OF 'tranchelaw29.MergerTerms'. -/
def mergerTermsUptoCard : Claim7 := { stood := { row := mergerTermsUptoRow, standIns := [], harness := (true, "dccae9716bb0541915c94d4c4511bd8da1e8d6776f218efd9a93790acd9bb803"), looks := true }, kinds := [], alts := [], laidByText := true, laidKinds := [.data, .data, .data, .data, .sentinel, .sentinel, .pinned], laidTests := true, laidLooks := .later }
def MergerTermsUptoCardSaid : Prop := Claim7.holds Tryz.pinned (.plain (OpenSpec.upto mergerTermsSpec)) mergerTermsUptoCard

/-- THE SECOND FORM's CARD OF 'tranchelaw29.MergerOptions'. -/
def mergerOptionsUptoCard : Claim7 := { stood := { row := mergerOptionsUptoRow, standIns := [], harness := (true, "dccae9716bb0541915c94d4c4511bd8da1e8d6776f218efd9a93790acd9bb803"), looks := true }, kinds := [], alts := [], laidByText := true, laidKinds := [.data, .data, .data, .data, .sentinel, .sentinel, .pinned], laidTests := true, laidLooks := .later }
def MergerOptionsUptoCardSaid : Prop := Claim7.holds Tryz.pinned (.plain (OpenSpec.upto mergerOptionsSpec)) mergerOptionsUptoCard

/-- THE SECOND FORM's CARD OF 'tranchelaw29.MergerBest'. -/
def mergerBestUptoCard : Claim7 := { stood := { row := mergerBestUptoRow, standIns := [], harness := (true, "dccae9716bb0541915c94d4c4511bd8da1e8d6776f218efd9a93790acd9bb803"), looks := true }, kinds := [], alts := [], laidByText := true, laidKinds := [.data, .data, .data, .data, .sentinel, .sentinel, .pinned], laidTests := true, laidLooks := .later }
def MergerBestUptoCardSaid : Prop := Claim7.holds Tryz.pinned (.plain (OpenSpec.upto mergerBestSpec)) mergerBestUptoCard
end Rows
end Go.Proofs.YthgpheopnhajaaaGreatDoor
