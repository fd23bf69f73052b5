/- The law MergerAbsent: a fact of its card: goes. -/
import Derived.Test.YthgpheopnhajaaaGreatDoorCards
import Derived.Test.YthgpheopnhajaaaGreatDoorTie
import Derived.ProofKit
namespace Go.Proofs.YthgpheopnhajaaaGreatDoor.mergerAbsent
open Go.RowKit

theorem k_goes : false = Rows.mergerAbsentRow.goesBy Tryz.pinned.checked.prog := by kernel_rfl
end Go.Proofs.YthgpheopnhajaaaGreatDoor.mergerAbsent
