/- The law MergerKeeps: a fact of its card: wf. -/
import Derived.Test.YthgpheopnhajaaaGreatDoorCards
import Derived.Test.YthgpheopnhajaaaGreatDoorTie
import Derived.ProofKit
namespace Go.Proofs.YthgpheopnhajaaaGreatDoor.mergerKeeps
open Go.RowKit

theorem k_wf : Rows.mergerKeepsRow.wfByText (OpenSpec.ofChange Rows.mergerKeepsSpec) = true := by kernel_rfl
end Go.Proofs.YthgpheopnhajaaaGreatDoor.mergerKeeps
