/- MergerLots: goes. -/
import Derived.Test.YthgpheopnhajaaaGreatDoorCards
import Derived.Test.YthgpheopnhajaaaGreatDoorTie
import Derived.ProofKit
namespace Go.Proofs.YthgpheopnhajaaaGreatDoor.mL
open Go.RowKit

theorem k_goes : false = Rows.mergerLotsRow.goesBy Tryz.pinned.checked.prog := by kernel_rfl
end Go.Proofs.YthgpheopnhajaaaGreatDoor.mL
