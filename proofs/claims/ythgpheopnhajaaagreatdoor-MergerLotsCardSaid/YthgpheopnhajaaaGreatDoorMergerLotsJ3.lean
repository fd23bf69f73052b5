/- MergerLots: recurses. -/
import Derived.Test.YthgpheopnhajaaaGreatDoorCards
import Derived.Test.YthgpheopnhajaaaGreatDoorTie
import Derived.ProofKit
namespace Go.Proofs.YthgpheopnhajaaaGreatDoor.mL
open Go.RowKit

theorem j_recurses : (Rows.mergerLotsRow.recurses == Tryz.pinned.checked.prog.recurses 7) = true := by kernel_rfl
end Go.Proofs.YthgpheopnhajaaaGreatDoor.mL
