/- MergerLots: wf. -/
import Derived.Test.YthgpheopnhajaaaGreatDoorCards
import Derived.Test.YthgpheopnhajaaaGreatDoorTie
import Derived.ProofKit
namespace Go.Proofs.YthgpheopnhajaaaGreatDoor.mL
open Go.RowKit

theorem k_wf : Rows.mergerLotsRow.wfByText (OpenSpec.ofChange Rows.mergerLotsSpec) = true := by kernel_rfl
end Go.Proofs.YthgpheopnhajaaaGreatDoor.mL
