/- MergerLots: unfollowed. -/
import Derived.Test.YthgpheopnhajaaaGreatDoorCards
import Derived.Test.YthgpheopnhajaaaGreatDoorTie
import Derived.ProofKit
namespace Go.Proofs.YthgpheopnhajaaaGreatDoor.mL
open Go.RowKit

theorem j_unfollowed : (Rows.mergerLotsRow.unfollowed == Tryz.pinned.checked.prog.unfollowed 7) = true := by kernel_rfl
end Go.Proofs.YthgpheopnhajaaaGreatDoor.mL
