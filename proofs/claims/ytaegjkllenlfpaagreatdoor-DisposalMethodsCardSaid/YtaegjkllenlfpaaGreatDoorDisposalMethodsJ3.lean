/- The law DisposalMethods: a fact of its row: recurses. -/
import Derived.Test.YtaegjkllenlfpaaGreatDoorCards
import Derived.Test.YtaegjkllenlfpaaGreatDoorTie
import Derived.ProofKit
namespace Go.Proofs.YtaegjkllenlfpaaGreatDoor.disposalMethods
open Go.RowKit

theorem j_recurses : (Rows.disposalMethodsRow.recurses == Tryz.pinned.checked.prog.recurses 4) = true := by kernel_rfl
end Go.Proofs.YtaegjkllenlfpaaGreatDoor.disposalMethods
