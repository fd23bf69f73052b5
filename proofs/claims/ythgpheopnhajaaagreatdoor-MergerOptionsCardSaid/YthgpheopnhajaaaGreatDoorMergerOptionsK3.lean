/- The law MergerOptions: a fact of its card: main. -/
import Derived.Test.YthgpheopnhajaaaGreatDoorCards
import Derived.Test.YthgpheopnhajaaaGreatDoorTie
import Derived.ProofKit
namespace Go.Proofs.YthgpheopnhajaaaGreatDoor.mergerOptions
open Go.RowKit

theorem k_main : Tryz.pinned.checked.prog.mainIs = some (Rows.mergerOptionsCard.stood.harness.1, Rows.mergerOptionsCard.stood.harness.2.toList) := by kernel_rfl
end Go.Proofs.YthgpheopnhajaaaGreatDoor.mergerOptions
