/- The law DisposalGains: a fact of its card: goes. -/
import Derived.Test.YtaegjkllenlfpaaGreatDoorCards
import Derived.Test.YtaegjkllenlfpaaGreatDoorTie
import Derived.ProofKit
namespace Go.Proofs.YtaegjkllenlfpaaGreatDoor.disposalGains
open Go.RowKit

theorem k_goes : false = Rows.disposalGainsRow.goesBy Tryz.pinned.checked.prog := by kernel_rfl
end Go.Proofs.YtaegjkllenlfpaaGreatDoor.disposalGains
