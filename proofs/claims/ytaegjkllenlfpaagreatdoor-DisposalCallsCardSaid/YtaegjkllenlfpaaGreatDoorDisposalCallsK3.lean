/- The law DisposalCalls: a fact of its card: main. -/
import Derived.Test.YtaegjkllenlfpaaGreatDoorCards
import Derived.Test.YtaegjkllenlfpaaGreatDoorTie
import Derived.ProofKit
namespace Go.Proofs.YtaegjkllenlfpaaGreatDoor.disposalCalls
open Go.RowKit

theorem k_main : Tryz.pinned.checked.prog.mainIs = some (Rows.disposalCallsCard.stood.harness.1, Rows.disposalCallsCard.stood.harness.2.toList) := by kernel_rfl
end Go.Proofs.YtaegjkllenlfpaaGreatDoor.disposalCalls
