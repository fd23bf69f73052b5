/- The law DisposalCalls: a fact of its card: wf. -/
import Derived.Test.YtaegjkllenlfpaaGreatDoorCards
import Derived.Test.YtaegjkllenlfpaaGreatDoorTie
import Derived.ProofKit
namespace Go.Proofs.YtaegjkllenlfpaaGreatDoor.disposalCalls
open Go.RowKit

theorem k_wf : Rows.disposalCallsRow.wfByText (OpenSpec.ofChange Rows.disposalCallsSpec) = true := by kernel_rfl
end Go.Proofs.YtaegjkllenlfpaaGreatDoor.disposalCalls
