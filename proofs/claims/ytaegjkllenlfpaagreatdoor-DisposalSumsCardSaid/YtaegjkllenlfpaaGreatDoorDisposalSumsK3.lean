/- The law DisposalSums: a fact of its card: main. -/
import Derived.Test.YtaegjkllenlfpaaGreatDoorCards
import Derived.Test.YtaegjkllenlfpaaGreatDoorTie
import Derived.ProofKit
namespace Go.Proofs.YtaegjkllenlfpaaGreatDoor.disposalSums
open Go.RowKit

theorem k_main : Tryz.pinned.checked.prog.mainIs = some (Rows.disposalSumsCard.stood.harness.1, Rows.disposalSumsCard.stood.harness.2.toList) := by kernel_rfl
end Go.Proofs.YtaegjkllenlfpaaGreatDoor.disposalSums
