/- The law DisposalSums: a fact of its row: recurses. -/
import Derived.Test.YtaegjkllenlfpaaGreatDoorCards
import Derived.Test.YtaegjkllenlfpaaGreatDoorTie
import Derived.ProofKit
namespace Go.Proofs.YtaegjkllenlfpaaGreatDoor.disposalSums
open Go.RowKit

theorem j_recurses : (Rows.disposalSumsRow.recurses == Tryz.pinned.checked.prog.recurses 8) = true := by kernel_rfl
end Go.Proofs.YtaegjkllenlfpaaGreatDoor.disposalSums
