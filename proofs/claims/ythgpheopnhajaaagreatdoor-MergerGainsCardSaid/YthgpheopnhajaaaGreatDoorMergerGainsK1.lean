/- The law MergerGains: a fact of its card: wf. -/
import Derived.Test.YthgpheopnhajaaaGreatDoorCards
import Derived.Test.YthgpheopnhajaaaGreatDoorTie
import Derived.ProofKit
namespace Go.Proofs.YthgpheopnhajaaaGreatDoor.mergerGains
open Go.RowKit

theorem k_wf : Rows.mergerGainsRow.wfByText (OpenSpec.ofChange Rows.mergerGainsSpec) = true := by kernel_rfl
end Go.Proofs.YthgpheopnhajaaaGreatDoor.mergerGains
