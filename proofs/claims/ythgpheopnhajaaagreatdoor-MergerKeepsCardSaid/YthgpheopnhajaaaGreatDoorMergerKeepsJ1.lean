/- The law MergerKeeps: a fact of its row: inPlace. -/
import Derived.Test.YthgpheopnhajaaaGreatDoorCards
import Derived.Test.YthgpheopnhajaaaGreatDoorTie
import Derived.ProofKit
namespace Go.Proofs.YthgpheopnhajaaaGreatDoor.mergerKeeps
open Go.RowKit

theorem j_inPlace : (Rows.mergerKeepsRow.inPlace == Tryz.pinned.checked.prog.inPlace 5) = true := by kernel_rfl
end Go.Proofs.YthgpheopnhajaaaGreatDoor.mergerKeeps
