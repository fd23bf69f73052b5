/- The law DisposalSums: a fact of its card: goes. -/
import Derived.Test.YtaegjkllenlfpaaGreatDoorCards
import Derived.Test.YtaegjkllenlfpaaGreatDoorTie
import Derived.ProofKit
namespace Go.Proofs.YtaegjkllenlfpaaGreatDoor.disposalSums
open Go.RowKit

theorem k_goes : false = Rows.disposalSumsRow.goesBy Tryz.pinned.checked.prog := by kernel_rfl
end Go.Proofs.YtaegjkllenlfpaaGreatDoor.disposalSums
