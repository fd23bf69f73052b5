/- The law DisposalMethods: a fact of its row: named. -/
import Derived.Test.YtaegjkllenlfpaaGreatDoorCards
import Derived.Test.YtaegjkllenlfpaaGreatDoorTie
import Derived.ProofKit
namespace Go.Proofs.YtaegjkllenlfpaaGreatDoor.disposalMethods
open Go.RowKit

theorem j_named : (Rows.disposalMethodsRow.named == Tryz.pinned.checked.prog.varsNamed 4) = true := by kernel_rfl
end Go.Proofs.YtaegjkllenlfpaaGreatDoor.disposalMethods
