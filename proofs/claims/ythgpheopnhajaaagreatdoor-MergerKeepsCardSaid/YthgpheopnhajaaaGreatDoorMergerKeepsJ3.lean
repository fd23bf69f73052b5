/- The law MergerKeeps: a fact of its row: recurses. -/
import Derived.Test.YthgpheopnhajaaaGreatDoorCards
import Derived.Test.YthgpheopnhajaaaGreatDoorTie
import Derived.ProofKit
namespace Go.Proofs.YthgpheopnhajaaaGreatDoor.mergerKeeps
open Go.RowKit

theorem j_recurses : (Rows.mergerKeepsRow.recurses == Tryz.pinned.checked.prog.recurses 5) = true := by kernel_rfl
end Go.Proofs.YthgpheopnhajaaaGreatDoor.mergerKeeps
