/- The law DisposalParts: a fact of its card: wf. -/
import Derived.Test.YtaegjkllenlfpaaGreatDoorCards
import Derived.Test.YtaegjkllenlfpaaGreatDoorTie
import Derived.ProofKit
namespace Go.Proofs.YtaegjkllenlfpaaGreatDoor.disposalParts
open Go.RowKit

theorem k_wf : Rows.disposalPartsRow.wfByText (OpenSpec.ofChange Rows.disposalPartsSpec) = true := by kernel_rfl
end Go.Proofs.YtaegjkllenlfpaaGreatDoor.disposalParts
