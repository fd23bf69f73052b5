/- The law MergerGains: a fact of its card: goes. -/
import Derived.Test.YthgpheopnhajaaaGreatDoorCards
import Derived.Test.YthgpheopnhajaaaGreatDoorTie
import Derived.ProofKit
namespace Go.Proofs.YthgpheopnhajaaaGreatDoor.mergerGains
open Go.RowKit

theorem k_goes : false = Rows.mergerGainsRow.goesBy Tryz.pinned.checked.prog := by kernel_rfl
end Go.Proofs.YthgpheopnhajaaaGreatDoor.mergerGains
