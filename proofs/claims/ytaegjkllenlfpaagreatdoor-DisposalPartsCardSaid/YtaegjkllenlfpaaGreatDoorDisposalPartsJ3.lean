/- The law DisposalParts: a fact of its row: recurses. -/
import Derived.Test.YtaegjkllenlfpaaGreatDoorCards
import Derived.Test.YtaegjkllenlfpaaGreatDoorTie
import Derived.ProofKit
namespace Go.Proofs.YtaegjkllenlfpaaGreatDoor.disposalParts
open Go.RowKit

theorem j_recurses : (Rows.disposalPartsRow.recurses == Tryz.pinned.checked.prog.recurses 9) = true := by kernel_rfl
end Go.Proofs.YtaegjkllenlfpaaGreatDoor.disposalParts
