/- The law DisposalParts: a fact of its row: inPlace. -/
import Derived.Test.YtaegjkllenlfpaaGreatDoorCards
import Derived.Test.YtaegjkllenlfpaaGreatDoorTie
import Derived.ProofKit
namespace Go.Proofs.YtaegjkllenlfpaaGreatDoor.disposalParts
open Go.RowKit

theorem j_inPlace : (Rows.disposalPartsRow.inPlace == Tryz.pinned.checked.prog.inPlace 9) = true := by kernel_rfl
end Go.Proofs.YtaegjkllenlfpaaGreatDoor.disposalParts
