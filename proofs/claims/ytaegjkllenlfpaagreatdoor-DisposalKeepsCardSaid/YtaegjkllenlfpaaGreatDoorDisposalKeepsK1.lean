/- The law DisposalKeeps: a fact of its card: wf. -/
import Derived.Test.YtaegjkllenlfpaaGreatDoorCards
import Derived.Test.YtaegjkllenlfpaaGreatDoorTie
import Derived.ProofKit
namespace Go.Proofs.YtaegjkllenlfpaaGreatDoor.disposalKeeps
open Go.RowKit

theorem k_wf : Rows.disposalKeepsRow.wfByText (OpenSpec.ofChange Rows.disposalKeepsSpec) = true := by kernel_rfl
end Go.Proofs.YtaegjkllenlfpaaGreatDoor.disposalKeeps
