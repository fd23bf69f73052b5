/- The law MergerBest: a fact of its card: wf. -/
import Derived.Test.YthgpheopnhajaaaGreatDoorCards
import Derived.Test.YthgpheopnhajaaaGreatDoorTie
import Derived.ProofKit
namespace Go.Proofs.YthgpheopnhajaaaGreatDoor.mergerBest
open Go.RowKit

theorem k_wf : Rows.mergerBestRow.wfByText (OpenSpec.ofChange Rows.mergerBestSpec) = true := by kernel_rfl
end Go.Proofs.YthgpheopnhajaaaGreatDoor.mergerBest
