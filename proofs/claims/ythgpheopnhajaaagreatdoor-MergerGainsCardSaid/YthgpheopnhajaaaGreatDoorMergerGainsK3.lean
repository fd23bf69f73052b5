/- The law MergerGains: a fact of its card: main. -/
import Derived.Test.YthgpheopnhajaaaGreatDoorCards
import Derived.Test.YthgpheopnhajaaaGreatDoorTie
import Derived.ProofKit
namespace Go.Proofs.YthgpheopnhajaaaGreatDoor.mergerGains
open Go.RowKit

theorem k_main : Tryz.pinned.checked.prog.mainIs = some (Rows.mergerGainsCard.stood.harness.1, Rows.mergerGainsCard.stood.harness.2.toList) := by kernel_rfl
end Go.Proofs.YthgpheopnhajaaaGreatDoor.mergerGains
