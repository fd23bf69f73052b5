/- The law DisposalMethods: a fact of its card: main. -/
import Derived.Test.YtaegjkllenlfpaaGreatDoorCards
import Derived.Test.YtaegjkllenlfpaaGreatDoorTie
import Derived.ProofKit
namespace Go.Proofs.YtaegjkllenlfpaaGreatDoor.disposalMethods
open Go.RowKit

theorem k_main : Tryz.pinned.checked.prog.mainIs = some (Rows.disposalMethodsCard.stood.harness.1, Rows.disposalMethodsCard.stood.harness.2.toList) := by kernel_rfl
end Go.Proofs.YtaegjkllenlfpaaGreatDoor.disposalMethods
