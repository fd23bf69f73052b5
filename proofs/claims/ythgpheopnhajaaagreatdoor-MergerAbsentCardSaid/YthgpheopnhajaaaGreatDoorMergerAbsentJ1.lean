/- The law MergerAbsent: a fact of its row: inPlace. -/
import Derived.Test.YthgpheopnhajaaaGreatDoorCards
import Derived.Test.YthgpheopnhajaaaGreatDoorTie
import Derived.ProofKit
namespace Go.Proofs.YthgpheopnhajaaaGreatDoor.mergerAbsent
open Go.RowKit

theorem j_inPlace : (Rows.mergerAbsentRow.inPlace == Tryz.pinned.checked.prog.inPlace 8) = true := by kernel_rfl
end Go.Proofs.YthgpheopnhajaaaGreatDoor.mergerAbsent
