/- The law DisposalKeeps: a fact of its row: unfollowed. -/
import Derived.Test.YtaegjkllenlfpaaGreatDoorCards
import Derived.Test.YtaegjkllenlfpaaGreatDoorTie
import Derived.ProofKit
namespace Go.Proofs.YtaegjkllenlfpaaGreatDoor.disposalKeeps
open Go.RowKit

theorem j_unfollowed : (Rows.disposalKeepsRow.unfollowed == Tryz.pinned.checked.prog.unfollowed 3) = true := by kernel_rfl
end Go.Proofs.YtaegjkllenlfpaaGreatDoor.disposalKeeps
