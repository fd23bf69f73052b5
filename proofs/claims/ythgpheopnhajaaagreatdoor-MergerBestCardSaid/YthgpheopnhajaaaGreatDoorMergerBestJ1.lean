/- The law MergerBest: a fact of its row: inPlace. -/
import Derived.Test.YthgpheopnhajaaaGreatDoorCards
import Derived.Test.YthgpheopnhajaaaGreatDoorTie
import Derived.ProofKit
namespace Go.Proofs.YthgpheopnhajaaaGreatDoor.mergerBest
open Go.RowKit

theorem j_inPlace : (Rows.mergerBestRow.inPlace == Tryz.pinned.checked.prog.inPlace 11) = true := by kernel_rfl
end Go.Proofs.YthgpheopnhajaaaGreatDoor.mergerBest
