/- The law DisposalMethods: a fact of its row: inPlace. -/
import Derived.Test.YtaegjkllenlfpaaGreatDoorCards
import Derived.Test.YtaegjkllenlfpaaGreatDoorTie
import Derived.ProofKit
namespace Go.Proofs.YtaegjkllenlfpaaGreatDoor.disposalMethods
open Go.RowKit

theorem j_inPlace : (Rows.disposalMethodsRow.inPlace == Tryz.pinned.checked.prog.inPlace 4) = true := by kernel_rfl
end Go.Proofs.YtaegjkllenlfpaaGreatDoor.disposalMethods
