/- The law DisposalMethods: a fact of its card: goes. -/
import Derived.Test.YtaegjkllenlfpaaGreatDoorCards
import Derived.Test.YtaegjkllenlfpaaGreatDoorTie
import Derived.ProofKit
namespace Go.Proofs.YtaegjkllenlfpaaGreatDoor.disposalMethods
open Go.RowKit

theorem k_goes : false = Rows.disposalMethodsRow.goesBy Tryz.pinned.checked.prog := by kernel_rfl
end Go.Proofs.YtaegjkllenlfpaaGreatDoor.disposalMethods
