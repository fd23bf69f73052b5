/- The law MergerAbsent: a fact of its card: main. -/
import Derived.Test.YthgpheopnhajaaaGreatDoorCards
import Derived.Test.YthgpheopnhajaaaGreatDoorTie
import Derived.ProofKit
namespace Go.Proofs.YthgpheopnhajaaaGreatDoor.mergerAbsent
open Go.RowKit

theorem k_main : Tryz.pinned.checked.prog.mainIs = some (Rows.mergerAbsentCard.stood.harness.1, Rows.mergerAbsentCard.stood.harness.2.toList) := by kernel_rfl
end Go.Proofs.YthgpheopnhajaaaGreatDoor.mergerAbsent
