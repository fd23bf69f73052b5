/- The law MergerAbsent: a fact of its row: recurses. -/
import Derived.Test.YthgpheopnhajaaaGreatDoorCards
import Derived.Test.YthgpheopnhajaaaGreatDoorTie
import Derived.ProofKit
namespace Go.Proofs.YthgpheopnhajaaaGreatDoor.mergerAbsent
open Go.RowKit

theorem j_recurses : (Rows.mergerAbsentRow.recurses == Tryz.pinned.checked.prog.recurses 8) = true := by kernel_rfl
end Go.Proofs.YthgpheopnhajaaaGreatDoor.mergerAbsent
