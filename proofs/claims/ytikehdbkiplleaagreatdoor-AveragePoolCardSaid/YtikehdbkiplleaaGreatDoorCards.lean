/-
  DERIVED. GIVEN WITH THE SEED: THE CARDS: each row of YtikehdbkiplleaaGreatDoorRows.lean that lists a variable, with what it lists TIED to the program's text (the seventh form; the later family's looks); each row that meets fmt, with fmt's text TOLD by the authors' own Lean function (tested against real Go, not proved from fmt's source: count such statements apart). THE CARD IS WHAT COUNTS. Prove the row's statement (the work); the ties are given (YtikehdbkiplleaaGreatDoorTie.lean); close each card by the builder's one call (the guide's Derived/Test/ToyasCard.lean, 'card_holds'). Laid BY PROGRAM, IN A SANDBOX (cutbox-door.mjs). By AI agents, Wed Nov 11 2026. No macro, syntax, notation, axiom, sorry.
-/
import Derived.Test.YtikehdbkiplleaaGreatDoorRows
import GoSem.ClaimSeven
namespace Go.Proofs.YtikehdbkiplleaaGreatDoor
namespace Rows

/-- THE TIED CARD OF 'tranchelaw22.AverageReads'. -/
def averageReadsCard : Claim7 := { stood := { row := averageReadsRow, standIns := [], harness := (true, "8059eee1ef17cca741f7e440f8e608f1ee2bdeb08f1e4b01926910297de79a88"), looks := true }, kinds := [], alts := [], laidByText := true, laidKinds := [.data, .data, .data, .data, .sentinel, .sentinel, .pinned], laidTests := true, laidLooks := .later }
def AverageReadsCardSaid : Prop := Claim7.holds Tryz.pinned (.plain (OpenSpec.ofChange averageReadsSpec)) averageReadsCard

/-- THE TIED CARD OF 'tranchelaw22.AverageTakes'. -/
def averageTakesCard : Claim7 := { stood := { row := averageTakesRow, standIns := [], harness := (true, "8059eee1ef17cca741f7e440f8e608f1ee2bdeb08f1e4b01926910297de79a88"), looks := true }, kinds := [], alts := [], laidByText := true, laidKinds := [.data, .data, .data, .data, .sentinel, .sentinel, .pinned], laidTests := true, laidLooks := .later }
def AverageTakesCardSaid : Prop := Claim7.holds Tryz.pinned (.plain (OpenSpec.ofChange averageTakesSpec)) averageTakesCard

/-- THE TIED CARD OF 'tranchelaw22.AverageEven'. -/
def averageEvenCard : Claim7 := { stood := { row := averageEvenRow, standIns := [], harness := (true, "8059eee1ef17cca741f7e440f8e608f1ee2bdeb08f1e4b01926910297de79a88"), looks := true }, kinds := [], alts := [], laidByText := true, laidKinds := [.data, .data, .data, .data, .sentinel, .sentinel, .pinned], laidTests := true, laidLooks := .later }
def AverageEvenCardSaid : Prop := Claim7.holds Tryz.pinned (.plain (OpenSpec.ofChange averageEvenSpec)) averageEvenCard

/-- THE TIED CARD OF 'tranchelaw22.AveragePool'. -/
def averagePoolCard : Claim7 := { stood := { row := averagePoolRow, standIns := [], harness := (true, "8059eee1ef17cca741f7e440f8e608f1ee2bdeb08f1e4b01926910297de79a88"), looks := true }, kinds := [], alts := [], laidByText := true, laidKinds := [.data, .data, .data, .data, .sentinel, .sentinel, .pinned], laidTests := true, laidLooks := .later }
def AveragePoolCardSaid : Prop := Claim7.holds Tryz.pinned (.plain (OpenSpec.ofChange averagePoolSpec)) averagePoolCard

/-- THE TIED CARD OF 'tranchelaw22.AverageConserves'. -/
def averageConservesCard : Claim7 := { stood := { row := averageConservesRow, standIns := [], harness := (true, "8059eee1ef17cca741f7e440f8e608f1ee2bdeb08f1e4b01926910297de79a88"), looks := true }, kinds := [], alts := [], laidByText := true, laidKinds := [.data, .data, .data, .data, .sentinel, .sentinel, .pinned], laidTests := true, laidLooks := .later }
def AverageConservesCardSaid : Prop := Claim7.holds Tryz.pinned (.plain (OpenSpec.ofChange averageConservesSpec)) averageConservesCard

/-- THE TIED CARD OF 'tranchelaw22.AverageOrder'. -/
def averageOrderCard : Claim7 := { stood := { row := averageOrderRow, standIns := [], harness := (true, "8059eee1ef17cca741f7e440f8e608f1ee2bdeb08f1e4b01926910297de79a88"), looks := true }, kinds := [], alts := [], laidByText := true, laidKinds := [.data, .data, .data, .data, .sentinel, .sentinel, .pinned], laidTests := true, laidLooks := .later }
def AverageOrderCardSaid : Prop := Claim7.holds Tryz.pinned (.plain (OpenSpec.ofChange averageOrderSpec)) averageOrderCard

/-- THE TIED CARD OF 'tranchelaw22.AverageBuys'. -/
def averageBuysCard : Claim7 := { stood := { row := averageBuysRow, standIns := [], harness := (true, "8059eee1ef17cca741f7e440f8e608f1ee2bdeb08f1e4b01926910297de79a88"), looks := true }, kinds := [], alts := [], laidByText := true, laidKinds := [.data, .data, .data, .data, .sentinel, .sentinel, .pinned], laidTests := true, laidLooks := .later }
def AverageBuysCardSaid : Prop := Claim7.holds Tryz.pinned (.plain (OpenSpec.ofChange averageBuysSpec)) averageBuysCard

/-- THE SECOND FORM's CARD OF 'tranchelaw22.AverageReads'. -/
def averageReadsUptoCard : Claim7 := { stood := { row := averageReadsUptoRow, standIns := [], harness := (true, "8059eee1ef17cca741f7e440f8e608f1ee2bdeb08f1e4b01926910297de79a88"), looks := true }, kinds := [], alts := [], laidByText := true, laidKinds := [.data, .data, .data, .data, .sentinel, .sentinel, .pinned], laidTests := true, laidLooks := .later }
def AverageReadsUptoCardSaid : Prop := Claim7.holds Tryz.pinned (.plain (OpenSpec.upto averageReadsSpec)) averageReadsUptoCard

/-- THE SECOND FORM's CARD OF 'tranchelaw22.AverageTakes'. -/
def averageTakesUptoCard : Claim7 := { stood := { row := averageTakesUptoRow, standIns := [], harness := (true, "8059eee1ef17cca741f7e440f8e608f1ee2bdeb08f1e4b01926910297de79a88"), looks := true }, kinds := [], alts := [], laidByText := true, laidKinds := [.data, .data, .data, .data, .sentinel, .sentinel, .pinned], laidTests := true, laidLooks := .later }
def AverageTakesUptoCardSaid : Prop := Claim7.holds Tryz.pinned (.plain (OpenSpec.upto averageTakesSpec)) averageTakesUptoCard

/-- THE SECOND FORM's CARD OF 'tranchelaw22.AverageEven'. -/
def averageEvenUptoCard : Claim7 := { stood := { row := averageEvenUptoRow, standIns := [], harness := (true, "8059eee1ef17cca741f7e440f8e608f1ee2bdeb08f1e4b01926910297de79a88"), looks := true }, kinds := [], alts := [], laidByText := true, laidKinds := [.data, .data, .data, .data, .sentinel, .sentinel, .pinned], laidTests := true, laidLooks := .later }
def AverageEvenUptoCardSaid : Prop := Claim7.holds Tryz.pinned (.plain (OpenSpec.upto averageEvenSpec)) averageEvenUptoCard

/-- THE SECOND FORM's CARD OF 'tranchelaw22.AveragePool'. -/
def averagePoolUptoCard : Claim7 := { stood := { row := averagePoolUptoRow, standIns := [], harness := (true, "8059eee1ef17cca741f7e440f8e608f1ee2bdeb08f1e4b01926910297de79a88"), looks := true }, kinds := [], alts := [], laidByText := true, laidKinds := [.data, .data, .data, .data, .sentinel, .sentinel, .pinned], laidTests := true, laidLooks := .later }
def AveragePoolUptoCardSaid : Prop := Claim7.holds Tryz.pinned (.plain (OpenSpec.upto averagePoolSpec)) averagePoolUptoCard

/-- THE SECOND FORM's CARD OF 'tranchelaw22.AverageConserves'. -/
def averageConservesUptoCard : Claim7 := { stood := { row := averageConservesUptoRow, standIns := [], harness := (true, "8059eee1ef17cca741f7e440f8e608f1ee2bdeb08f1e4b01926910297de79a88"), looks := true }, kinds := [], alts := [], laidByText := true, laidKinds := [.data, .data, .data, .data, .sentinel, .sentinel, .pinned], laidTests := true, laidLooks := .later }
def AverageConservesUptoCardSaid : Prop := Claim7.holds Tryz.pinned (.plain (OpenSpec.upto averageConservesSpec)) averageConservesUptoCard

/-- THE SECOND FORM's CARD OF 'tranchelaw22.AverageOrder'. -/
def averageOrderUptoCard : Claim7 := { stood := { row := averageOrderUptoRow, standIns := [], harness := (true, "8059eee1ef17cca741f7e440f8e608f1ee2bdeb08f1e4b01926910297de79a88"), looks := true }, kinds := [], alts := [], laidByText := true, laidKinds := [.data, .data, .data, .data, .sentinel, .sentinel, .pinned], laidTests := true, laidLooks := .later }
def AverageOrderUptoCardSaid : Prop := Claim7.holds Tryz.pinned (.plain (OpenSpec.upto averageOrderSpec)) averageOrderUptoCard

/-- THE SECOND FORM's CARD OF 'tranchelaw22.AverageBuys'. -/
def averageBuysUptoCard : Claim7 := { stood := { row := averageBuysUptoRow, standIns := [], harness := (true, "8059eee1ef17cca741f7e440f8e608f1ee2bdeb08f1e4b01926910297de79a88"), looks := true }, kinds := [], alts := [], laidByText := true, laidKinds := [.data, .data, .data, .data, .sentinel, .sentinel, .pinned], laidTests := true, laidLooks := .later }
def AverageBuysUptoCardSaid : Prop := Claim7.holds Tryz.pinned (.plain (OpenSpec.upto averageBuysSpec)) averageBuysUptoCard
end Rows
end Go.Proofs.YtikehdbkiplleaaGreatDoor
