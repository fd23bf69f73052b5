/- The law MergerAbsent: a fact of its card: wf. -/
import Derived.Test.YthgpheopnhajaaaGreatDoorCards
import Derived.Test.YthgpheopnhajaaaGreatDoorTie
import Derived.ProofKit
namespace Go.Proofs.YthgpheopnhajaaaGreatDoor.mergerAbsent
open Go.RowKit

theorem k_wf : Rows.mergerAbsentRow.wfByText (OpenSpec.ofChange Rows.mergerAbsentSpec) = true := by kernel_rfl
end Go.Proofs.YthgpheopnhajaaaGreatDoor.mergerAbsent
