/- The law DisposalCalls: a fact of its row: named. -/
import Derived.Test.YtaegjkllenlfpaaGreatDoorCards
import Derived.Test.YtaegjkllenlfpaaGreatDoorTie
import Derived.ProofKit
namespace Go.Proofs.YtaegjkllenlfpaaGreatDoor.disposalCalls
open Go.RowKit

theorem j_named : (Rows.disposalCallsRow.named == Tryz.pinned.checked.prog.varsNamed 6) = true := by kernel_rfl
end Go.Proofs.YtaegjkllenlfpaaGreatDoor.disposalCalls
