/- The law DisposalCalls: a fact of its row: recurses. -/
import Derived.Test.YtaegjkllenlfpaaGreatDoorCards
import Derived.Test.YtaegjkllenlfpaaGreatDoorTie
import Derived.ProofKit
namespace Go.Proofs.YtaegjkllenlfpaaGreatDoor.disposalCalls
open Go.RowKit

theorem j_recurses : (Rows.disposalCallsRow.recurses == Tryz.pinned.checked.prog.recurses 6) = true := by kernel_rfl
end Go.Proofs.YtaegjkllenlfpaaGreatDoor.disposalCalls
