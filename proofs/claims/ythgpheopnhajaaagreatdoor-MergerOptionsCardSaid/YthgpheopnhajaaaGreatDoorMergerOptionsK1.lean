/- The law MergerOptions: a fact of its card: wf. -/
import Derived.Test.YthgpheopnhajaaaGreatDoorCards
import Derived.Test.YthgpheopnhajaaaGreatDoorTie
import Derived.ProofKit
namespace Go.Proofs.YthgpheopnhajaaaGreatDoor.mergerOptions
open Go.RowKit

theorem k_wf : Rows.mergerOptionsRow.wfByText (OpenSpec.ofChange Rows.mergerOptionsSpec) = true := by kernel_rfl
end Go.Proofs.YthgpheopnhajaaaGreatDoor.mergerOptions
