/- The law MergerRecognizes: a fact of its row: inPlace. -/
import Derived.Test.YthgpheopnhajaaaGreatDoorCards
import Derived.Test.YthgpheopnhajaaaGreatDoorTie
import Derived.ProofKit
namespace Go.Proofs.YthgpheopnhajaaaGreatDoor.mergerRecognizes
open Go.RowKit

theorem j_inPlace : (Rows.mergerRecognizesRow.inPlace == Tryz.pinned.checked.prog.inPlace 4) = true := by kernel_rfl
end Go.Proofs.YthgpheopnhajaaaGreatDoor.mergerRecognizes
