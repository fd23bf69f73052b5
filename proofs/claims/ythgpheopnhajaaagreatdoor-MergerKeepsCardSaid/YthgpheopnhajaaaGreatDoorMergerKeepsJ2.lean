/- The law MergerKeeps: a fact of its row: unfollowed. -/
import Derived.Test.YthgpheopnhajaaaGreatDoorCards
import Derived.Test.YthgpheopnhajaaaGreatDoorTie
import Derived.ProofKit
namespace Go.Proofs.YthgpheopnhajaaaGreatDoor.mergerKeeps
open Go.RowKit

theorem j_unfollowed : (Rows.mergerKeepsRow.unfollowed == Tryz.pinned.checked.prog.unfollowed 5) = true := by kernel_rfl
end Go.Proofs.YthgpheopnhajaaaGreatDoor.mergerKeeps
