/- The law MergerBest: a fact of its row: recurses. -/
import Derived.Test.YthgpheopnhajaaaGreatDoorCards
import Derived.Test.YthgpheopnhajaaaGreatDoorTie
import Derived.ProofKit
namespace Go.Proofs.YthgpheopnhajaaaGreatDoor.mergerBest
open Go.RowKit

theorem j_recurses : (Rows.mergerBestRow.recurses == Tryz.pinned.checked.prog.recurses 11) = true := by kernel_rfl
end Go.Proofs.YthgpheopnhajaaaGreatDoor.mergerBest
