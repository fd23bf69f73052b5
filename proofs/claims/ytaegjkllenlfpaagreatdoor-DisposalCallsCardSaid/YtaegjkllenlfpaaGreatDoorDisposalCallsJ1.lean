/- The law DisposalCalls: a fact of its row: inPlace. -/
import Derived.Test.YtaegjkllenlfpaaGreatDoorCards
import Derived.Test.YtaegjkllenlfpaaGreatDoorTie
import Derived.ProofKit
namespace Go.Proofs.YtaegjkllenlfpaaGreatDoor.disposalCalls
open Go.RowKit

theorem j_inPlace : (Rows.disposalCallsRow.inPlace == Tryz.pinned.checked.prog.inPlace 6) = true := by kernel_rfl
end Go.Proofs.YtaegjkllenlfpaaGreatDoor.disposalCalls
