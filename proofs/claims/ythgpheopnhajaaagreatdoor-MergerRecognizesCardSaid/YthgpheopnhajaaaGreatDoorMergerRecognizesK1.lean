/- The law MergerRecognizes: a fact of its card: wf. -/
import Derived.Test.YthgpheopnhajaaaGreatDoorCards
import Derived.Test.YthgpheopnhajaaaGreatDoorTie
import Derived.ProofKit
namespace Go.Proofs.YthgpheopnhajaaaGreatDoor.mergerRecognizes
open Go.RowKit

theorem k_wf : Rows.mergerRecognizesRow.wfByText (OpenSpec.ofChange Rows.mergerRecognizesSpec) = true := by kernel_rfl
end Go.Proofs.YthgpheopnhajaaaGreatDoor.mergerRecognizes
