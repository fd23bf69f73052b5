/- The law DisposalGains: a fact of its card: main. -/
import Derived.Test.YtaegjkllenlfpaaGreatDoorCards
import Derived.Test.YtaegjkllenlfpaaGreatDoorTie
import Derived.ProofKit
namespace Go.Proofs.YtaegjkllenlfpaaGreatDoor.disposalGains
open Go.RowKit

theorem k_main : Tryz.pinned.checked.prog.mainIs = some (Rows.disposalGainsCard.stood.harness.1, Rows.disposalGainsCard.stood.harness.2.toList) := by kernel_rfl
end Go.Proofs.YtaegjkllenlfpaaGreatDoor.disposalGains
