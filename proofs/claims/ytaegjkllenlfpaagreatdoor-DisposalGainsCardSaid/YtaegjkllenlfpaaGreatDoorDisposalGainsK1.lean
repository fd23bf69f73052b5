/- The law DisposalGains: a fact of its card: wf. -/
import Derived.Test.YtaegjkllenlfpaaGreatDoorCards
import Derived.Test.YtaegjkllenlfpaaGreatDoorTie
import Derived.ProofKit
namespace Go.Proofs.YtaegjkllenlfpaaGreatDoor.disposalGains
open Go.RowKit

theorem k_wf : Rows.disposalGainsRow.wfByText (OpenSpec.ofChange Rows.disposalGainsSpec) = true := by kernel_rfl
end Go.Proofs.YtaegjkllenlfpaaGreatDoor.disposalGains
