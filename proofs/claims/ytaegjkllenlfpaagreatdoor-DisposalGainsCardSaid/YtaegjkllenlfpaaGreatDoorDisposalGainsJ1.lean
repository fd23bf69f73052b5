/- The law DisposalGains: a fact of its row: inPlace. -/
import Derived.Test.YtaegjkllenlfpaaGreatDoorCards
import Derived.Test.YtaegjkllenlfpaaGreatDoorTie
import Derived.ProofKit
namespace Go.Proofs.YtaegjkllenlfpaaGreatDoor.disposalGains
open Go.RowKit

theorem j_inPlace : (Rows.disposalGainsRow.inPlace == Tryz.pinned.checked.prog.inPlace 7) = true := by kernel_rfl
end Go.Proofs.YtaegjkllenlfpaaGreatDoor.disposalGains
