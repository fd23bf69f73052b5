/- The law MergerRecognizes: a fact of its row: named. -/
import Derived.Test.YthgpheopnhajaaaGreatDoorCards
import Derived.Test.YthgpheopnhajaaaGreatDoorTie
import Derived.ProofKit
namespace Go.Proofs.YthgpheopnhajaaaGreatDoor.mergerRecognizes
open Go.RowKit

theorem j_named : (Rows.mergerRecognizesRow.named == Tryz.pinned.checked.prog.varsNamed 4) = true := by kernel_rfl
end Go.Proofs.YthgpheopnhajaaaGreatDoor.mergerRecognizes
