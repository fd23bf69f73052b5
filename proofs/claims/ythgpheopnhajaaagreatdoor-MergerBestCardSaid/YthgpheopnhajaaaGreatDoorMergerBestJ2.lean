/- The law MergerBest: a fact of its row: unfollowed. -/
import Derived.Test.YthgpheopnhajaaaGreatDoorCards
import Derived.Test.YthgpheopnhajaaaGreatDoorTie
import Derived.ProofKit
namespace Go.Proofs.YthgpheopnhajaaaGreatDoor.mergerBest
open Go.RowKit

theorem j_unfollowed : (Rows.mergerBestRow.unfollowed == Tryz.pinned.checked.prog.unfollowed 11) = true := by kernel_rfl
end Go.Proofs.YthgpheopnhajaaaGreatDoor.mergerBest
