/- The law DisposalGains: a fact of its row: unfollowed. -/
import Derived.Test.YtaegjkllenlfpaaGreatDoorCards
import Derived.Test.YtaegjkllenlfpaaGreatDoorTie
import Derived.ProofKit
namespace Go.Proofs.YtaegjkllenlfpaaGreatDoor.disposalGains
open Go.RowKit

theorem j_unfollowed : (Rows.disposalGainsRow.unfollowed == Tryz.pinned.checked.prog.unfollowed 7) = true := by kernel_rfl
end Go.Proofs.YtaegjkllenlfpaaGreatDoor.disposalGains
