/- The law MergerOptions: a fact of its row: unfollowed. -/
import Derived.Test.YthgpheopnhajaaaGreatDoorCards
import Derived.Test.YthgpheopnhajaaaGreatDoorTie
import Derived.ProofKit
namespace Go.Proofs.YthgpheopnhajaaaGreatDoor.mergerOptions
open Go.RowKit

theorem j_unfollowed : (Rows.mergerOptionsRow.unfollowed == Tryz.pinned.checked.prog.unfollowed 10) = true := by kernel_rfl
end Go.Proofs.YthgpheopnhajaaaGreatDoor.mergerOptions
