/- The law MergerRecognizes: a fact of its card: main. -/
import Derived.Test.YthgpheopnhajaaaGreatDoorCards
import Derived.Test.YthgpheopnhajaaaGreatDoorTie
import Derived.ProofKit
namespace Go.Proofs.YthgpheopnhajaaaGreatDoor.mergerRecognizes
open Go.RowKit

theorem k_main : Tryz.pinned.checked.prog.mainIs = some (Rows.mergerRecognizesCard.stood.harness.1, Rows.mergerRecognizesCard.stood.harness.2.toList) := by kernel_rfl
end Go.Proofs.YthgpheopnhajaaaGreatDoor.mergerRecognizes
