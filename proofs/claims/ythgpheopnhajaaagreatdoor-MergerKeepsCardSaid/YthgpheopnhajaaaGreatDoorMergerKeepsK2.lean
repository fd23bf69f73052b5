/- The law MergerKeeps: a fact of its card: goes. -/
import Derived.Test.YthgpheopnhajaaaGreatDoorCards
import Derived.Test.YthgpheopnhajaaaGreatDoorTie
import Derived.ProofKit
namespace Go.Proofs.YthgpheopnhajaaaGreatDoor.mergerKeeps
open Go.RowKit

theorem k_goes : false = Rows.mergerKeepsRow.goesBy Tryz.pinned.checked.prog := by kernel_rfl
end Go.Proofs.YthgpheopnhajaaaGreatDoor.mergerKeeps
